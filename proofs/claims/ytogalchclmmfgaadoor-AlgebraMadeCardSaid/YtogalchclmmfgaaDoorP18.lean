/- A part of the proof of AlgebraMade. -/
import Derived.Test.YtogalchclmmfgaaDoorP17
import Derived.Test.YtogalchclmmfgaaDoorP01
import Derived.Test.YtogalchclmmfgaaDoorP02
import Derived.Test.YtogalchclmmfgaaDoorP05
import Derived.Deep.RegionHeld3
import Derived.Lib.IndexMore
set_option maxRecDepth 100000
set_option maxHeartbeats 16000000
namespace Go.Proofs.YtogalchclmmfgaaDoor
open Go.RowKit
theorem rtyped_any {w0:World} {e:Ex} (h0:e.In w0) : ∀(ts:IL) (w:World),ts.In w→e.In w→e.size≤1000000→
  Calls Tryd.prog 89 #[.slice ts.h.ao ts.l.length ts.h.cap,.agg #[.int .i64 e.op,.int .i64 e.typ,.int .i64 e.num,.string e.text,.int .i64 e.col,.slice e.kh.ao e.kids.length e.kh.cap]] w fun r w'=>r = .returned (.tuple #[.int .i64 (e.ty ts.l).1,.int .i64 (e.ty ts.l).2])∧Below w.heap.size w w':=by
 induction h0 with
 | mk e _ _ _ ih=>
 intro ts w hts hin hsz;have IH:=ai ih;clear ih;obtain⟨op,typ,num,text,col,kh,kids⟩:=e
 dsimp only at *
 obtain⟨i0,hi,hz0,hz1,hz2⟩:=info_parts info3;have HI:=ai (And.intro hi (And.intro hz0 (And.intro hz1 hz2)));clear hi hz0 hz1 hz2;have HTX:=ai (show text.size≤maxLen from hin.wf.2.2.2.1)
 have hnk:kids.length≤1000000:=by
  have h1:=sizes_len kids;have h2:=Ex.size_eq ⟨op,typ,num,text,col,kh,kids⟩
  dsimp only at h2
  omega
 have HKS:=ai (show∀k∈kids,k.size≤1000000 from fun k hk=>by
  have h1:=sizes_mem kids k hk;have h2:=Ex.size_eq ⟨op,typ,num,text,col,kh,kids⟩
  dsimp only at h2
  omega)
 have hntl:=hts.1.len;have HTS:=ai hts;have HIN:=ai hin;clear hts hin hsz
 go_enter Tryd.func89,Tryd.ntmps89;go_wp2;go_loopw [6,7] (fun v i wr=>∃k:Nat,k≤kids.length∧i = .int .i64 k∧Hid (wr.ownsRow (w.heap.size+1) 3 1 v k ((kids.take k).flatMap fun x=> [.int .i64 (x.ty ts.l).1]))∧Hid (∀j (hj:j<kids.length),j<k→(kids[j].ty ts.l).2=0)∧Hid (Below (w.heap.size+1) (w.alloc (.cells #[.int .i64 op,.int .i64 typ,.int .i64 num,.string text,.int .i64 col,.slice kh.ao kids.length kh.cap] 45)) wr)) (fun _ i _=>kids.length - (intOf i).toNat)
 case atStart=>exact⟨0,Nat.zero_le _,rfl,World.ownsRow_nil _ _ _ _,fun j _ h=>absurd h (by omega),Below.refl _ _⟩
 case round=>
  obtain⟨k,hk,rfl,HO,HN,HBW⟩:=hrel;have HB:=ai ((belA (w:=w) (.cells #[.int .i64 op,.int .i64 typ,.int .i64 num,.string text,.int .i64 col,.slice kh.ao kids.length kh.cap] 45)).trans (HBW.o.mono (by omega)))
  have hszl:w.heap.size+1≤wr.heap.size:=by have:=HBW.o.size;simpa using this
  have HINR:=ai (HIN.o.mono HB.o);have HTSR:=ai (HTS.o.mono HB.o);have HY:=ai (show∀w':World,Below wr.heap.size wr w'→∀(j:Nat) (v:Value),(#[.int .i64 op,.int .i64 typ,.int .i64 num,.string text,.int .i64 col,.slice kh.ao kids.length kh.cap] :Array Value)[j]? = some v→w'.cell? ⟨w.heap.size,j,none⟩ =some v from fun w' h j v hv=>box_cell (by rw [World.size_alloc];exact HBW.o.trans (h.mono hszl)) hv)
  have x0:=HY.o wr (Below.refl _ _) 0 _ rfl;have x1:=HY.o wr (Below.refl _ _) 1 _ rfl;have x2:=HY.o wr (Below.refl _ _) 2 _ rfl;have x3:=HY.o wr (Below.refl _ _) 3 _ rfl;have x4:=HY.o wr (Below.refl _ _) 4 _ rfl;have x5:=HY.o wr (Below.refl _ _) 5 _ rfl;by_cases hlt:k<kids.length
  ·have hrow:Row wr 6 Ex.cells kh kids:=HINR.o.row
   have hix:=hrow.ix hlt Tryd.underlying37 sz41;obtain⟨c0,c1,c2,c3,c4,c5⟩:=ex_at hrow hlt;have hbk:=hrow.blk hlt;clear hrow;have HKIN:=ai (show(kids[k]).In wr from HINR.o.kid _ (List.getElem_mem hlt))
   have HC:=ai (show Calls Tryd.prog 89 #[.slice ts.h.ao ts.l.length ts.h.cap,.agg #[.int .i64 (kids[k]).op,.int .i64 (kids[k]).typ,.int .i64 (kids[k]).num,.string (kids[k]).text,.int .i64 (kids[k]).col,.slice (kids[k]).kh.ao (kids[k]).kids.length (kids[k]).kh.cap]] wr fun r w'=>r = .returned (.tuple #[.int .i64 ((kids[k]).ty ts.l).1,.int .i64 ((kids[k]).ty ts.l).2])∧Below wr.heap.size wr w' from
    IH.o _ (List.getElem_mem hlt) ts _ HTSR.o HKIN.o (HKS.o _ (List.getElem_mem hlt)))
   by_cases hev: ((kids[k]).ty ts.l).2=0
   ·have HEV:=ai hev
    clear hev;go_wp2_with (first
     | (go_at_call 89;refine HC.o.mono ?_;rintro e w1 ⟨rfl,hb1⟩;rw [HEV.o];have HB1:=ai hb1;have hs1:=HB1.o.size;clear hb1)
     | (at_builtin;refine wpList_append_own _ rfl _ _ 22 rfl (w.heap.size+1) 3 i0 (.int .i64 0) 1 8 Tryd.underlying22 HI.o.1 HI.o.2.1 HI.o.2.2.1 HI.o.2.2.2 rfl (by decide) _ _ _ rfl ((HO.o.kept (only_below HB1.o none) (Classical.em _)).alloc _) ⟨w1.heap.size,0,none⟩ 1 1 [.int .i64 ((kids[k]).ty ts.l).1] rfl rfl (new_cells (l:= [_])) one_int (by unfold maxLen;omega) (by omega) (by simp;omega) ?_;intro v' w2 hown' hgrow _))
    have HO':=ai (own_snoc (cells:=fun x:Ex=> [.int .i64 (x.ty ts.l).1]) hlt hown')
    have HG:=ai hgrow;clear hown' hgrow;go_wp2;go_roundw
    case rel=>
     refine⟨k+1,by omega,by go_num,HO'.o,fun j hj h=> ?_,?_⟩
     ·by_cases e:j=k
      ·subst e;exact HEV.o
      ·exact HN.o j hj (by omega)
     ·exact grown1 (HBW.o.trans (HB1.o.mono hszl)) (by omega) HG.o (fun b hb=>(HO.o.lt b hb).1)
    case measure=>simp [intOf];omega
   ·obtain⟨ev,hv⟩ : ∃x,((kids[k]).ty ts.l).2=x:=⟨_,rfl⟩
    have hne: (ev == 0) =false:=by rw [←hv];simpa using hev
    have HEV:=ai hv;have HEZ:=ai hev;clear hv hev;go_wp2_with (first
     | (go_at_call 89;refine HC.o.mono ?_;rintro e w1 ⟨rfl,hb1⟩;rw [HEV.o];have HB1:=ai hb1;have hs1:=HB1.o.size;clear hb1))
    go_ret2
    refine⟨ret_tt ?_,HB.o.trans (HB1.o.mono HB.o.size)⟩
    rw [Ex.ty_eq,topF_err hlt HEZ.o HN.o,HEV.o]
  ·obtain rfl:k=kids.length:=by omega
   obtain⟨r,hv,hrl,hri⟩:=il_mk (xs:=kids.map fun x=>(x.ty ts.l).1) (e:=3) (n:=kids.length) (base:=w.heap.size+1) (by have:=HO.o;rw [List.take_length,ty_icells]at this;exact this) (fun n hn=>by
    obtain⟨x,hx,rfl⟩:=List.mem_map.1 hn;obtain⟨j,hj,rfl⟩:=List.getElem_of_mem hx;exact isT_64 (ty_ok (HN.o j hj hj)))
   have HTOP:=ai (show Ex.ty ts.l ⟨op,typ,num,text,col,kh,kids⟩ =topT ts.l op typ num text col r.l by rw [Ex.ty_eq,topF_all (fun j hj=>HN.o j hj hj),hrl])
   have HRN:=ai (show r.l.length=kids.length by rw [hrl,List.length_map])
   have hnr:r.l.length≤1000000:=by have:=HRN.o;omega
   have HRI:=ai hri;subst hv;clear hri hrl HO HN;obtain⟨bp,hbp⟩ : ∃b,(decide (1≤op∧op≤28) && plainE op typ num text col) =b:=⟨_,rfl⟩;have HBP:=ai hbp;clear hbp;obtain⟨bk,hbk⟩ : ∃b,kidsOk op r.l.length=b:=⟨_,rfl⟩;have HBK:=ai hbk;clear hbk
   cases bp
   ·have HRES:=ai (HTOP.o.trans (topT_1 (fun h=>by have:=HBP.o;rw [decide_eq_true h.1,h.2]at this;cases this)))
    go_wp2_with (first
     | (go_at_call 105;refine(rplain_v op typ num text col kh.ao kids.length kh.cap _ HTX.o).mono ?_;rintro e w1 ⟨rfl,hb1⟩;rw [HBP.o];have HB1:=ai hb1;clear hb1 x0 x1 x2 x3 x4 x5;have y0:=HY.o _ HB1.o 0 _ rfl;have y1:=HY.o _ HB1.o 1 _ rfl;have y2:=HY.o _ HB1.o 2 _ rfl;have y3:=HY.o _ HB1.o 3 _ rfl;have y4:=HY.o _ HB1.o 4 _ rfl;have y5:=HY.o _ HB1.o 5 _ rfl))
    go_ret2
    exact⟨ret_tt HRES.o.symm,HB.o.trans (HB1.o.mono HB.o.size)⟩
   have HOP:=ai (show(1≤op∧op≤28)∧plainE op typ num text col=true by have:=HBP.o;rw [Bool.and_eq_true]at this;exact⟨of_decide_eq_true this.1,this.2⟩)
   cases bk
   ·have HRES:=ai (HTOP.o.trans (topT_9 HOP.o.1 HOP.o.2 HBK.o))
    go_wp2_with (first
     | (go_at_call 105;refine(rplain_v op typ num text col kh.ao kids.length kh.cap _ HTX.o).mono ?_;rintro e w1 ⟨rfl,hb1⟩;rw [HBP.o];have HB1:=ai hb1;clear hb1 x0 x1 x2 x3 x4 x5;have y0:=HY.o _ HB1.o 0 _ rfl;have y1:=HY.o _ HB1.o 1 _ rfl;have y2:=HY.o _ HB1.o 2 _ rfl;have y3:=HY.o _ HB1.o 3 _ rfl;have y4:=HY.o _ HB1.o 4 _ rfl;have y5:=HY.o _ HB1.o 5 _ rfl)
     | (go_at_call 106;refine(rkids_any op r.l.length _).mono ?_;rintro e w2 ⟨rfl,hb2⟩;rw [HBK.o];have HB2:=ai (bT HB1.o hb2);clear hb2 y0 y1 y2 y3 y4 y5;have z0:=HY.o _ HB2.o 0 _ rfl;have z1:=HY.o _ HB2.o 1 _ rfl;have z2:=HY.o _ HB2.o 2 _ rfl;have z3:=HY.o _ HB2.o 3 _ rfl;have z4:=HY.o _ HB2.o 4 _ rfl;have z5:=HY.o _ HB2.o 5 _ rfl))
    go_ret2
    exact⟨ret_tt HRES.o.symm,HB.o.trans (HB2.o.mono HB.o.size)⟩
   obtain⟨t,ht⟩ : ∃t,resE ts.l op typ col r.l=t:=⟨_,rfl⟩;have HT:=ai ht;clear ht;by_cases h5:op=5
   ·have H5:=ai h5
    have h5b: (op == 5) =true:=by simpa using h5
    clear h5;by_cases hc0:col<0
    ·have HRES:=ai (HTOP.o.trans (topT_3 HOP.o.1 HOP.o.2 HBK.o ⟨H5.o,.inl hc0⟩))
     go_wp2_with (first
      | (go_at_call 105;refine(rplain_v op typ num text col kh.ao kids.length kh.cap _ HTX.o).mono ?_;rintro e w1 ⟨rfl,hb1⟩;rw [HBP.o];have HB1:=ai hb1;clear hb1 x0 x1 x2 x3 x4 x5;have y0:=HY.o _ HB1.o 0 _ rfl;have y1:=HY.o _ HB1.o 1 _ rfl;have y2:=HY.o _ HB1.o 2 _ rfl;have y3:=HY.o _ HB1.o 3 _ rfl;have y4:=HY.o _ HB1.o 4 _ rfl;have y5:=HY.o _ HB1.o 5 _ rfl)
      | (go_at_call 106;refine(rkids_any op r.l.length _).mono ?_;rintro e w2 ⟨rfl,hb2⟩;rw [HBK.o];have HB2:=ai (bT HB1.o hb2);clear hb2 y0 y1 y2 y3 y4 y5;have z0:=HY.o _ HB2.o 0 _ rfl;have z1:=HY.o _ HB2.o 1 _ rfl;have z2:=HY.o _ HB2.o 2 _ rfl;have z3:=HY.o _ HB2.o 3 _ rfl;have z4:=HY.o _ HB2.o 4 _ rfl;have z5:=HY.o _ HB2.o 5 _ rfl))
     go_ret2
     exact⟨ret_tt HRES.o.symm,HB.o.trans (HB2.o.mono HB.o.size)⟩
    by_cases hcn: (ts.l.length:Int)≤col
    ·have HRES:=ai (HTOP.o.trans (topT_3 HOP.o.1 HOP.o.2 HBK.o ⟨H5.o,.inr hcn⟩))
     go_wp2_with (first
      | (go_at_call 105;refine(rplain_v op typ num text col kh.ao kids.length kh.cap _ HTX.o).mono ?_;rintro e w1 ⟨rfl,hb1⟩;rw [HBP.o];have HB1:=ai hb1;clear hb1 x0 x1 x2 x3 x4 x5;have y0:=HY.o _ HB1.o 0 _ rfl;have y1:=HY.o _ HB1.o 1 _ rfl;have y2:=HY.o _ HB1.o 2 _ rfl;have y3:=HY.o _ HB1.o 3 _ rfl;have y4:=HY.o _ HB1.o 4 _ rfl;have y5:=HY.o _ HB1.o 5 _ rfl)
      | (go_at_call 106;refine(rkids_any op r.l.length _).mono ?_;rintro e w2 ⟨rfl,hb2⟩;rw [HBK.o];have HB2:=ai (bT HB1.o hb2);clear hb2 y0 y1 y2 y3 y4 y5;have z0:=HY.o _ HB2.o 0 _ rfl;have z1:=HY.o _ HB2.o 1 _ rfl;have z2:=HY.o _ HB2.o 2 _ rfl;have z3:=HY.o _ HB2.o 3 _ rfl;have z4:=HY.o _ HB2.o 4 _ rfl;have z5:=HY.o _ HB2.o 5 _ rfl))
     go_ret2
     exact⟨ret_tt HRES.o.symm,HB.o.trans (HB2.o.mono HB.o.size)⟩
    have HCN:=ai (show¬(col<0∨(ts.l.length:Int)≤col) by omega)
    have HRES0:=ai (HTOP.o.trans (topT_pass HOP.o.1 HOP.o.2 HBK.o (fun h=>HCN.o h.2)))
    by_cases t1:t<1
    ·have HRES:=ai (HRES0.o.trans (show _= (0,4) by rw [HT.o,show isT t=false from decide_eq_false (by omega)];rfl))
     go_wp2_with (first
      | (go_at_call 105;refine(rplain_v op typ num text col kh.ao kids.length kh.cap _ HTX.o).mono ?_;rintro e w1 ⟨rfl,hb1⟩;rw [HBP.o];have HB1:=ai hb1;clear hb1 x0 x1 x2 x3 x4 x5;have y0:=HY.o _ HB1.o 0 _ rfl;have y1:=HY.o _ HB1.o 1 _ rfl;have y2:=HY.o _ HB1.o 2 _ rfl;have y3:=HY.o _ HB1.o 3 _ rfl;have y4:=HY.o _ HB1.o 4 _ rfl;have y5:=HY.o _ HB1.o 5 _ rfl)
      | (go_at_call 106;refine(rkids_any op r.l.length _).mono ?_;rintro e w2 ⟨rfl,hb2⟩;rw [HBK.o];have HB2:=ai (bT HB1.o hb2);clear hb2 y0 y1 y2 y3 y4 y5;have z0:=HY.o _ HB2.o 0 _ rfl;have z1:=HY.o _ HB2.o 1 _ rfl;have z2:=HY.o _ HB2.o 2 _ rfl;have z3:=HY.o _ HB2.o 3 _ rfl;have z4:=HY.o _ HB2.o 4 _ rfl;have z5:=HY.o _ HB2.o 5 _ rfl)
      | (go_at_call 107;refine(rres_lit ts r _ (HTSR.o.mono HB2.o) (HRI.o.mono HB2.o) op typ num text col kh.ao kids.length kh.cap HOP.o.1 HBK.o (fun _=>HCN.o)).mono ?_;rintro e w3 ⟨rfl,hb3⟩;rw [HT.o];have HB3:=ai (bT HB2.o hb3);clear hb3))
     go_ret2
     exact⟨ret_tt HRES.o.symm,HB.o.trans (HB3.o.mono HB.o.size)⟩
    by_cases t3:3<t
    ·have HRES:=ai (HRES0.o.trans (show _= (0,4) by rw [HT.o,show isT t=false from decide_eq_false (by omega)];rfl))
     go_wp2_with (first
      | (go_at_call 105;refine(rplain_v op typ num text col kh.ao kids.length kh.cap _ HTX.o).mono ?_;rintro e w1 ⟨rfl,hb1⟩;rw [HBP.o];have HB1:=ai hb1;clear hb1 x0 x1 x2 x3 x4 x5;have y0:=HY.o _ HB1.o 0 _ rfl;have y1:=HY.o _ HB1.o 1 _ rfl;have y2:=HY.o _ HB1.o 2 _ rfl;have y3:=HY.o _ HB1.o 3 _ rfl;have y4:=HY.o _ HB1.o 4 _ rfl;have y5:=HY.o _ HB1.o 5 _ rfl)
      | (go_at_call 106;refine(rkids_any op r.l.length _).mono ?_;rintro e w2 ⟨rfl,hb2⟩;rw [HBK.o];have HB2:=ai (bT HB1.o hb2);clear hb2 y0 y1 y2 y3 y4 y5;have z0:=HY.o _ HB2.o 0 _ rfl;have z1:=HY.o _ HB2.o 1 _ rfl;have z2:=HY.o _ HB2.o 2 _ rfl;have z3:=HY.o _ HB2.o 3 _ rfl;have z4:=HY.o _ HB2.o 4 _ rfl;have z5:=HY.o _ HB2.o 5 _ rfl)
      | (go_at_call 107;refine(rres_lit ts r _ (HTSR.o.mono HB2.o) (HRI.o.mono HB2.o) op typ num text col kh.ao kids.length kh.cap HOP.o.1 HBK.o (fun _=>HCN.o)).mono ?_;rintro e w3 ⟨rfl,hb3⟩;rw [HT.o];have HB3:=ai (bT HB2.o hb3);clear hb3))
     go_ret2
     exact⟨ret_tt HRES.o.symm,HB.o.trans (HB3.o.mono HB.o.size)⟩
    have HRES:=ai (HRES0.o.trans (show _= (t,0) by rw [HT.o,show isT t=true from decide_eq_true (by omega)];rfl))
    go_wp2_with (first
     | (go_at_call 105;refine(rplain_v op typ num text col kh.ao kids.length kh.cap _ HTX.o).mono ?_;rintro e w1 ⟨rfl,hb1⟩;rw [HBP.o];have HB1:=ai hb1;clear hb1 x0 x1 x2 x3 x4 x5;have y0:=HY.o _ HB1.o 0 _ rfl;have y1:=HY.o _ HB1.o 1 _ rfl;have y2:=HY.o _ HB1.o 2 _ rfl;have y3:=HY.o _ HB1.o 3 _ rfl;have y4:=HY.o _ HB1.o 4 _ rfl;have y5:=HY.o _ HB1.o 5 _ rfl)
     | (go_at_call 106;refine(rkids_any op r.l.length _).mono ?_;rintro e w2 ⟨rfl,hb2⟩;rw [HBK.o];have HB2:=ai (bT HB1.o hb2);clear hb2 y0 y1 y2 y3 y4 y5;have z0:=HY.o _ HB2.o 0 _ rfl;have z1:=HY.o _ HB2.o 1 _ rfl;have z2:=HY.o _ HB2.o 2 _ rfl;have z3:=HY.o _ HB2.o 3 _ rfl;have z4:=HY.o _ HB2.o 4 _ rfl;have z5:=HY.o _ HB2.o 5 _ rfl)
     | (go_at_call 107;refine(rres_lit ts r _ (HTSR.o.mono HB2.o) (HRI.o.mono HB2.o) op typ num text col kh.ao kids.length kh.cap HOP.o.1 HBK.o (fun _=>HCN.o)).mono ?_;rintro e w3 ⟨rfl,hb3⟩;rw [HT.o];have HB3:=ai (bT HB2.o hb3);clear hb3))
    go_ret2
    exact⟨ret_tt HRES.o.symm,HB.o.trans (HB3.o.mono HB.o.size)⟩
   ·have h5b: (op == 5) =false:=by simpa using h5
    have HCN:=ai (show op=5→¬(col<0∨(ts.l.length:Int)≤col)from fun h=>absurd h h5)
    have HRES0:=ai (HTOP.o.trans (topT_pass HOP.o.1 HOP.o.2 HBK.o (fun h=>h5 h.1)))
    clear h5;by_cases t1:t<1
    ·have HRES:=ai (HRES0.o.trans (show _= (0,4) by rw [HT.o,show isT t=false from decide_eq_false (by omega)];rfl))
     go_wp2_with (first
      | (go_at_call 105;refine(rplain_v op typ num text col kh.ao kids.length kh.cap _ HTX.o).mono ?_;rintro e w1 ⟨rfl,hb1⟩;rw [HBP.o];have HB1:=ai hb1;clear hb1 x0 x1 x2 x3 x4 x5;have y0:=HY.o _ HB1.o 0 _ rfl;have y1:=HY.o _ HB1.o 1 _ rfl;have y2:=HY.o _ HB1.o 2 _ rfl;have y3:=HY.o _ HB1.o 3 _ rfl;have y4:=HY.o _ HB1.o 4 _ rfl;have y5:=HY.o _ HB1.o 5 _ rfl)
      | (go_at_call 106;refine(rkids_any op r.l.length _).mono ?_;rintro e w2 ⟨rfl,hb2⟩;rw [HBK.o];have HB2:=ai (bT HB1.o hb2);clear hb2 y0 y1 y2 y3 y4 y5;have z0:=HY.o _ HB2.o 0 _ rfl;have z1:=HY.o _ HB2.o 1 _ rfl;have z2:=HY.o _ HB2.o 2 _ rfl;have z3:=HY.o _ HB2.o 3 _ rfl;have z4:=HY.o _ HB2.o 4 _ rfl;have z5:=HY.o _ HB2.o 5 _ rfl)
      | (go_at_call 107;refine(rres_lit ts r _ (HTSR.o.mono HB2.o) (HRI.o.mono HB2.o) op typ num text col kh.ao kids.length kh.cap HOP.o.1 HBK.o HCN.o).mono ?_;rintro e w3 ⟨rfl,hb3⟩;rw [HT.o];have HB3:=ai (bT HB2.o hb3);clear hb3))
     go_ret2
     exact⟨ret_tt HRES.o.symm,HB.o.trans (HB3.o.mono HB.o.size)⟩
    by_cases t3:3<t
    ·have HRES:=ai (HRES0.o.trans (show _= (0,4) by rw [HT.o,show isT t=false from decide_eq_false (by omega)];rfl))
     go_wp2_with (first
      | (go_at_call 105;refine(rplain_v op typ num text col kh.ao kids.length kh.cap _ HTX.o).mono ?_;rintro e w1 ⟨rfl,hb1⟩;rw [HBP.o];have HB1:=ai hb1;clear hb1 x0 x1 x2 x3 x4 x5;have y0:=HY.o _ HB1.o 0 _ rfl;have y1:=HY.o _ HB1.o 1 _ rfl;have y2:=HY.o _ HB1.o 2 _ rfl;have y3:=HY.o _ HB1.o 3 _ rfl;have y4:=HY.o _ HB1.o 4 _ rfl;have y5:=HY.o _ HB1.o 5 _ rfl)
      | (go_at_call 106;refine(rkids_any op r.l.length _).mono ?_;rintro e w2 ⟨rfl,hb2⟩;rw [HBK.o];have HB2:=ai (bT HB1.o hb2);clear hb2 y0 y1 y2 y3 y4 y5;have z0:=HY.o _ HB2.o 0 _ rfl;have z1:=HY.o _ HB2.o 1 _ rfl;have z2:=HY.o _ HB2.o 2 _ rfl;have z3:=HY.o _ HB2.o 3 _ rfl;have z4:=HY.o _ HB2.o 4 _ rfl;have z5:=HY.o _ HB2.o 5 _ rfl)
      | (go_at_call 107;refine(rres_lit ts r _ (HTSR.o.mono HB2.o) (HRI.o.mono HB2.o) op typ num text col kh.ao kids.length kh.cap HOP.o.1 HBK.o HCN.o).mono ?_;rintro e w3 ⟨rfl,hb3⟩;rw [HT.o];have HB3:=ai (bT HB2.o hb3);clear hb3))
     go_ret2
     exact⟨ret_tt HRES.o.symm,HB.o.trans (HB3.o.mono HB.o.size)⟩
    have HRES:=ai (HRES0.o.trans (show _= (t,0) by rw [HT.o,show isT t=true from decide_eq_true (by omega)];rfl))
    go_wp2_with (first
     | (go_at_call 105;refine(rplain_v op typ num text col kh.ao kids.length kh.cap _ HTX.o).mono ?_;rintro e w1 ⟨rfl,hb1⟩;rw [HBP.o];have HB1:=ai hb1;clear hb1 x0 x1 x2 x3 x4 x5;have y0:=HY.o _ HB1.o 0 _ rfl;have y1:=HY.o _ HB1.o 1 _ rfl;have y2:=HY.o _ HB1.o 2 _ rfl;have y3:=HY.o _ HB1.o 3 _ rfl;have y4:=HY.o _ HB1.o 4 _ rfl;have y5:=HY.o _ HB1.o 5 _ rfl)
     | (go_at_call 106;refine(rkids_any op r.l.length _).mono ?_;rintro e w2 ⟨rfl,hb2⟩;rw [HBK.o];have HB2:=ai (bT HB1.o hb2);clear hb2 y0 y1 y2 y3 y4 y5;have z0:=HY.o _ HB2.o 0 _ rfl;have z1:=HY.o _ HB2.o 1 _ rfl;have z2:=HY.o _ HB2.o 2 _ rfl;have z3:=HY.o _ HB2.o 3 _ rfl;have z4:=HY.o _ HB2.o 4 _ rfl;have z5:=HY.o _ HB2.o 5 _ rfl)
     | (go_at_call 107;refine(rres_lit ts r _ (HTSR.o.mono HB2.o) (HRI.o.mono HB2.o) op typ num text col kh.ao kids.length kh.cap HOP.o.1 HBK.o HCN.o).mono ?_;rintro e w3 ⟨rfl,hb3⟩;rw [HT.o];have HB3:=ai (bT HB2.o hb3);clear hb3))
    go_ret2
    exact⟨ret_tt HRES.o.symm,HB.o.trans (HB3.o.mono HB.o.size)⟩
theorem rtype_any {w0:World} {e:Ex} (h0:e.In w0) (ts:IL) (w:World) (hts:ts.In w) (hin:e.In w) (hsz:e.size≤1000000) :
  Calls Tryd.prog 56 #[.slice ts.h.ao ts.l.length ts.h.cap,.agg #[.int .i64 e.op,.int .i64 e.typ,.int .i64 e.num,.string e.text,.int .i64 e.col,.slice e.kh.ao e.kids.length e.kh.cap]] w fun r w'=>r = .returned (.tuple #[.int .i64 (e.typ2 ts.l).1,.int .i64 (e.typ2 ts.l).2])∧Below w.heap.size w w':=by
 have HB0:=ai (belA (w:=w) (.cells #[.int .i64 e.op,.int .i64 e.typ,.int .i64 e.num,.string e.text,.int .i64 e.col,.slice e.kh.ao e.kids.length e.kh.cap] 45))
 have HSZ:=ai (show wrap64 (e.size:Int) =e.size from wrap_small (by omega))
 have HE0:=ai h0;have HTS:=ai (hts.mono HB0.o);have HIN:=ai (hin.mono HB0.o);have hdl:=Ex.dep_le e;clear hts hin;by_cases h200:200<e.size
 ·have h200': (200:Int) < (e.size:Int):=by omega
  have HR:=ai (show e.typ2 ts.l= (0,8) by unfold Ex.typ2;rw [if_pos h200])
  go_enter Tryd.func56,Tryd.ntmps56;go_wp2_with (go_at_call 69;refine(rsize_any HE0.o _ HIN.o).mono ?_;rintro r w1 ⟨rfl,hb1⟩;rw [HSZ.o];have HB1:=ai hb1;clear hb1)
  go_ret2
  exact⟨ret_tt HR.o.symm,bel1 HB1.o⟩
 have h200': ¬(200:Int) < (e.size:Int):=by omega
 by_cases h24:24<e.dep
 ·have h24': (24:Int) < (e.dep:Int):=by omega
  have HR:=ai (show e.typ2 ts.l= (0,13) by unfold Ex.typ2;rw [if_neg h200,if_pos h24])
  go_enter Tryd.func56,Tryd.ntmps56;go_wp2_with (first
   | (go_at_call 69;refine(rsize_any HE0.o _ HIN.o).mono ?_;rintro r w1 ⟨rfl,hb1⟩;rw [HSZ.o];have HB1:=ai hb1;have y0:=box_cell HB1.o (j:=0) rfl;have y1:=box_cell HB1.o (j:=1) rfl;have y2:=box_cell HB1.o (j:=2) rfl;have y3:=box_cell HB1.o (j:=3) rfl;have y4:=box_cell HB1.o (j:=4) rfl;have y5:=box_cell HB1.o (j:=5) rfl;clear hb1)
   | (go_at_call 88;refine(redep_any HE0.o _ (HIN.o.mono HB1.o) hsz).mono ?_;rintro r w2 ⟨rfl,hb2⟩;have HB2:=ai (bT HB1.o hb2);clear hb2))
  go_ret2
  exact⟨ret_tt HR.o.symm,bel1 HB2.o⟩
 ·have h24': ¬(24:Int) < (e.dep:Int):=by omega
  have HR:=ai (show e.typ2 ts.l=e.ty ts.l by unfold Ex.typ2;rw [if_neg h200,if_neg h24])
  go_enter Tryd.func56,Tryd.ntmps56;go_wp2_with (first
   | (go_at_call 69;refine(rsize_any HE0.o _ HIN.o).mono ?_;rintro r w1 ⟨rfl,hb1⟩;rw [HSZ.o];have HB1:=ai hb1;have y0:=box_cell HB1.o (j:=0) rfl;have y1:=box_cell HB1.o (j:=1) rfl;have y2:=box_cell HB1.o (j:=2) rfl;have y3:=box_cell HB1.o (j:=3) rfl;have y4:=box_cell HB1.o (j:=4) rfl;have y5:=box_cell HB1.o (j:=5) rfl;clear hb1)
   | (go_at_call 88;refine(redep_any HE0.o _ (HIN.o.mono HB1.o) hsz).mono ?_;rintro r w2 ⟨rfl,hb2⟩;have HB2:=ai (bT HB1.o hb2);clear hb2;clear y0 y1 y2 y3 y4 y5;have z0:=box_cell HB2.o (j:=0) rfl;have z1:=box_cell HB2.o (j:=1) rfl;have z2:=box_cell HB2.o (j:=2) rfl;have z3:=box_cell HB2.o (j:=3) rfl;have z4:=box_cell HB2.o (j:=4) rfl;have z5:=box_cell HB2.o (j:=5) rfl)
   | (go_at_call 89;refine(rtyped_any HE0.o ts _ (HTS.o.mono HB2.o) (HIN.o.mono HB2.o) hsz).mono ?_;rintro r w3 ⟨rfl,hb3⟩;rw [←HR.o];have HB3:=ai (bT HB2.o hb3);clear hb3))
  go_ret2
  exact⟨rfl,bel1 HB3.o⟩
end Go.Proofs.YtogalchclmmfgaaDoor
namespace Go.Proofs.YtogalchclmmfgaaDoor
open Go.RowKit
def KeyOk (n:Nat) (l:List Int) :Prop:=0<l.length∧∀i (h:i<l.length),0≤l[i]∧l[i] <n∧∀j (hj:j<l.length),j<i→l[j]≠l[i]
open Classical in
noncomputable def keyB (n:Nat) (l:List Int) :Bool:=decide (KeyOk n l)
noncomputable def keyE (n:Nat) (l:List Int) :Int:=if keyB n l then 0 else 6
end Go.Proofs.YtogalchclmmfgaaDoor
namespace Go.Proofs.YtogalchclmmfgaaDoor
open Go.RowKit
def tgtN (s:Sch) (i k:Int) :Option ByteArray:=if 0≤i∧0≤k then (s.tabs[i.toNat]?).bind fun t=>(t.fors[k.toNat]?).map (·.tab) else none
def tgtI (s:Sch) (i k:Int) :Int:=match tgtN s i k with|some t=>fi (named t) s.tabs|none=>0
def tgtB (s:Sch) (i k:Int) :Bool:=match tgtN s i k with|some t=>fok (named t) s.tabs|none=>false
end Go.Proofs.YtogalchclmmfgaaDoor
namespace Go.Proofs.YtogalchclmmfgaaDoor
open Go.RowKit
end Go.Proofs.YtogalchclmmfgaaDoor
namespace Go.Proofs.YtogalchclmmfgaaDoor
open Go.RowKit
def pn (x:Tab) (k:Int) :Bool:=(x.cols.getD k.toNat ⟨⟨#[]⟩,0,false⟩).nul
noncomputable def keysE (x:Tab) :Int:=
 if keyB x.cols.length x.prim.l=false then 6 else if x.prim.l.any (pn x) then 4 else if (x.uniqs ++ x.fors.map Frn.cols).all (fun l=>keyB x.cols.length l.l) then 0 else 6
def okU (x:Tab) :Prop:=0<x.uniqs.length∨x.uh.ao=none
abbrev fcells (f:Frn) :List Value:=f.cols.cells
end Go.Proofs.YtogalchclmmfgaaDoor
namespace Go.Proofs.YtogalchclmmfgaaDoor
def words:List (List UInt8):= [[115,101,108,101,99,116],
 [100,105,115,116,105,110,99,116],
 [97,108,108],
 [102,114,111,109],
 [119,104,101,114,101],
 [103,114,111,117,112],
 [98,121],
 [104,97,118,105,110,103],
 [97,115],
 [111,110],
 [117,110,105,111,110],
 [101,120,99,101,112,116],
 [105,110,116,101,114,115,101,99,116],
 [106,111,105,110],
 [105,110,110,101,114],
 [108,101,102,116],
 [114,105,103,104,116],
 [102,117,108,108],
 [99,114,111,115,115],
 [115,101,109,105],
 [97,110,116,105],
 [97,110,100],
 [111,114],
 [110,111,116],
 [105,115],
 [110,117,108,108],
 [116,114,117,101],
 [102,97,108,115,101],
 [105,110],
 [99,97,115,101],
 [119,104,101,110],
 [116,104,101,110],
 [101,108,115,101],
 [101,110,100],
 [118,97,108,117,101,115],
 [116,97,98,108,101],
 [112,114,105,109,97,114,121],
 [117,110,105,113,117,101],
 [102,111,114,101,105,103,110],
 [114,101,102,101,114,101,110,99,101,115],
 [99,104,101,99,107],
 [105,110,116],
 [98,111,111,108],
 [116,101,120,116],
 [99,111,117,110,116],
 [115,117,109],
 [109,105,110],
 [109,97,120],
 [99,111,97,108,101,115,99,101],
 [108,101,110,103,116,104],
 [115,97,109,101],
 [109,111,100]]
def glue:List (List UInt8)→List UInt8
 | []=> [32]
 | w :: r=>32 :: w ++ glue r
def Occ (s sub:List UInt8) :Prop:=∃a b,s=a ++ (sub ++ b)
end Go.Proofs.YtogalchclmmfgaaDoor
namespace Go.Proofs.YtogalchclmmfgaaDoor
open Go.RowKit
def lett (c:Int) :Bool:=decide (97≤c∧c≤122)
def vch (c:Int) :Bool:=lett c || decide (48≤c∧c≤57) || decide (c=95)
abbrev scells (b:ByteArray) :List Value:= [.string b]
def resWords:List ByteArray:= [⟨#[115,101,108,101,99,116]⟩,
 ⟨#[100,105,115,116,105,110,99,116]⟩,
 ⟨#[97,108,108]⟩,
 ⟨#[102,114,111,109]⟩,
 ⟨#[119,104,101,114,101]⟩,
 ⟨#[103,114,111,117,112]⟩,
 ⟨#[98,121]⟩,
 ⟨#[104,97,118,105,110,103]⟩,
 ⟨#[97,115]⟩,
 ⟨#[111,110]⟩,
 ⟨#[117,110,105,111,110]⟩,
 ⟨#[101,120,99,101,112,116]⟩,
 ⟨#[105,110,116,101,114,115,101,99,116]⟩,
 ⟨#[106,111,105,110]⟩,
 ⟨#[105,110,110,101,114]⟩,
 ⟨#[108,101,102,116]⟩,
 ⟨#[114,105,103,104,116]⟩,
 ⟨#[102,117,108,108]⟩,
 ⟨#[99,114,111,115,115]⟩,
 ⟨#[115,101,109,105]⟩,
 ⟨#[97,110,116,105]⟩,
 ⟨#[97,110,100]⟩,
 ⟨#[111,114]⟩,
 ⟨#[110,111,116]⟩,
 ⟨#[105,115]⟩,
 ⟨#[110,117,108,108]⟩,
 ⟨#[116,114,117,101]⟩,
 ⟨#[102,97,108,115,101]⟩,
 ⟨#[105,110]⟩,
 ⟨#[99,97,115,101]⟩,
 ⟨#[119,104,101,110]⟩,
 ⟨#[116,104,101,110]⟩,
 ⟨#[101,108,115,101]⟩,
 ⟨#[101,110,100]⟩,
 ⟨#[118,97,108,117,101,115]⟩,
 ⟨#[116,97,98,108,101]⟩,
 ⟨#[112,114,105,109,97,114,121]⟩,
 ⟨#[117,110,105,113,117,101]⟩,
 ⟨#[102,111,114,101,105,103,110]⟩,
 ⟨#[114,101,102,101,114,101,110,99,101,115]⟩,
 ⟨#[99,104,101,99,107]⟩,
 ⟨#[105,110,116]⟩,
 ⟨#[98,111,111,108]⟩,
 ⟨#[116,101,120,116]⟩,
 ⟨#[99,111,117,110,116]⟩,
 ⟨#[115,117,109]⟩,
 ⟨#[109,105,110]⟩,
 ⟨#[109,97,120]⟩,
 ⟨#[99,111,97,108,101,115,99,101]⟩,
 ⟨#[108,101,110,103,116,104]⟩,
 ⟨#[115,97,109,101]⟩,
 ⟨#[109,111,100]⟩]
structure IsName (s:ByteArray) :Prop where
 lo:1≤s.size
 hi:s.size≤16
 fst: ∀h:0<s.size,lett ((s[0]'h).toNat:Int) =true
 all: ∀j (h:j<s.size),vch ((s[j]'h).toNat:Int) =true
 new:s ∉ resWords
open Classical in
noncomputable def pb (p:Prop) :Bool:=decide p
end Go.Proofs.YtogalchclmmfgaaDoor
namespace Go.Proofs.YtogalchclmmfgaaDoor
open Go.RowKit
end Go.Proofs.YtogalchclmmfgaaDoor
namespace Go.Proofs.YtogalchclmmfgaaDoor
open Go.RowKit
def firstE (l:List Int) :Int:=(l.find? (fun e=>e != 0)).getD 0
theorem firstE_cons0 (l:List Int) :firstE (0 :: l) =firstE l:=by simp [firstE]
theorem firstE_cons {e:Int} (h:e≠0) (l:List Int) :firstE (e :: l) =e:=by simp [firstE,h]
theorem firstE_app0: ∀ {a:List Int} (b:List Int),(∀e∈a,e=0)→firstE (a ++ b) =firstE b
 | [],_,_=>rfl
 | x :: a,b,h=>by
  rw [h x (by simp),List.cons_append,firstE_cons0]
  exact firstE_app0 b (fun e he=>h e (by simp [he]))
theorem firstE_at {l:List Int} {k:Nat} (hk:k<l.length) (h0: ∀j (hj:j<l.length),j<k→l[j] =0) (hne:l[k]≠0) (b:List Int) :firstE (l ++ b) =l[k]:=by
 have hsp:l=l.take k ++ l[k] :: l.drop (k+1):=by rw [List.getElem_cons_drop,List.take_append_drop]
 have h1: ∀e∈l.take k,e=0:=fun e he=>by
  obtain⟨j,hj,rfl⟩:=List.getElem_of_mem he;rw [List.length_take]at hj;rw [List.getElem_take];exact h0 j (by omega) (by omega)
 generalize hx:l[k] =y at *;rw [hsp,List.append_assoc,firstE_app0 _ h1,List.cons_append,firstE_cons hne]
noncomputable def colE (x:Tab) (c:Col) (i:Nat) :Int:=if pb (IsName c.name) =false then 3 else if fi (cnamed c.name) x.cols≠i then 5 else if isT c.typ=false then 4 else 0
noncomputable def chkE (x:Tab) (e:Ex) :Int:=if (e.typ2 (x.cols.map Col.typ)).2≠0 then (e.typ2 (x.cols.map Col.typ)).2 else if (e.typ2 (x.cols.map Col.typ)).1≠2 then 4 else 0
noncomputable def tableE (x:Tab) :Int:=
 if 8<x.cols.length∨3<x.uniqs.length∨3<x.fors.length∨4<x.checks.length then 8 else if x.cols.length=0 then 9
 else firstE (x.cols.zipIdx.map (fun p=>colE x p.1 p.2) ++ (keysE x :: x.checks.map (chkE x)))
end Go.Proofs.YtogalchclmmfgaaDoor

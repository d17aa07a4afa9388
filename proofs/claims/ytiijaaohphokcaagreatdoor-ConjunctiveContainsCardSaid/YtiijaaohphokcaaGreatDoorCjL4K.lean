/- querylabfield.Weaker: its walk. -/
import Derived.Test.YtiijaaohphokcaaGreatDoorG27
set_option maxRecDepth 100000
set_option maxHeartbeats 16000000
namespace Go.Proofs.YtiijaaohphokcaaGreatDoor
open Go.RowKit
def WkF (q:Cq) (lo:List Li) :Prop:=(∀l∈q.lits,l∈lo)∧(lo.length≤q.lits.length∨lo.length≤5)
theorem WkF.refl (q:Cq) :WkF q q.lits:=⟨fun _ h=>h,.inl (Nat.le_refl _)⟩
def WkPost (w:World) (b:Nat) (L:IL) (a:Nat) (T:List (List Int)) (p:Cq) (e:Ending) (w':World) :Prop:=∃(q:Cq) (a':Nat),e = .returned (.agg #[.int .i64 (q.vars:Nat),.slice q.lh.ao q.lits.length q.lh.cap,.slice q.head.h.ao q.head.l.length q.head.h.cap])∧RightQ w' T q (b+1)∧TapeIn w' b L a'∧(a'≤a+3∧q.head.l=p.head.l∧WkF p q.lits)∧w.grownBy w' (some b)
theorem wf_set {l:List (Tm V)} (h: ∀t∈l,t.wf) {t:Tm V} (ht:t.wf) (k:Nat) : ∀u∈l.set k t,u.wf:=fun u hu=>by
 rcases List.mem_or_eq_of_mem_set hu with hu|hu
 ·exact h u hu
 ·rw [hu];exact ht
structure EndS (w:World) (s:Sch) (q:Cq) (b:Nat) (L:IL) (a ob vo:Nat) (lo:List Li) (hd:Hd) (T:List (List Int)) (z:World) :Prop where
 ws:WS w s q b L a ob vo lo (.slice hd.ao lo.length hd.cap) z
 gl: ∀l∈lo,l.sl.In z (b+1)∧l.tab≤1000∧l.sl.h.b≠w.heap.size+1+1
 hq:q.head.In z (b+1)∧q.head.h.b≠w.heap.size+1+1
 ri:vo≤1000∧∃τ,Right T vo ⟨lo.map Li.lt,q.head.l⟩ τ
section
variable {w z y:World} {s:Sch} {q:Cq} {b a ob vo:Nat} {L:IL} {lo:List Li} {hd:Hd} {T:List (List Int)}
theorem EndS.below (h:EndS w s q b L a ob vo lo hd T z) (hb:Below z.heap.size z y) :EndS w s q b L a ob vo lo hd T y:=⟨h.ws.below hb,fun l hl=>⟨(h.gl l hl).1.mono hb,(h.gl l hl).2⟩,⟨h.hq.1.mono hb,h.hq.2⟩,h.ri⟩
theorem in_own {x:World} (ho:x.ownsRow w.heap.size 56 2 (.slice hd.ao lo.length hd.cap) lo.length (lo.flatMap Li.cells)) :Row x 2 Li.cells hd lo∧(0<lo.length→w.heap.size≤hd.b):=by
 obtain⟨⟨a2,c2⟩,e1,r1,o1⟩:=own_rowE (cells:=Li.cells) (fun _=>rfl) (by decide) ho
 obtain⟨a1,c1⟩:=hd;injection e1 with e1 _ e2;have e1:a1=a2:=e1;have e2:c1=c2:=e2;subst e1;subst e2;exact⟨r1,fun hp=>(o1 hp).1⟩
theorem EndS.right (h:EndS w s q b L a ob vo lo hd T z) (ht: ∀ty∈T,ty.length≤1000) :RightQ z T ⟨vo,hd,lo,q.head⟩ (b+1):=by
 obtain⟨r1,r2⟩:=in_own h.ws.ol;have hll:=h.ws.ll.1;exact⟨⟨r1,fun hp=>by have:=r2 hp;show b+1≤hd.b;omega,fun l hl=>(h.gl l hl).1,fun l hl=>(h.gl l hl).2.1,h.hq.1,h.ri.1⟩,h.ri.2,ht⟩
theorem EndS.fin (h:EndS w s q b L a ob vo lo hd T z) (ht: ∀ty∈T,ty.length≤1000) (hg:z.grownBy y (some (w.heap.size+1+1))) :RightQ y T ⟨vo,hd,lo,q.head⟩ (b+1):=by
 have ho:=h.ws.ol.kept hg (.inr (fun e=>(TyAt.own h.ws.ol e).ne (TyAt.box h.ws.br) (by decide) rfl))
 obtain⟨r1,r2⟩:=in_own ho;have hll:=h.ws.ll.1;have key: ∀x:TL,x.In z (b+1)→x.h.b≠w.heap.size+1+1→x.In y (b+1):=fun x hx hne=>⟨row_row hx.row hg (by intro e;injection e with e;exact hne e),hx.wf,hx.ge⟩
 exact⟨⟨r1,fun hp=>by have:=r2 hp;show b+1≤hd.b;omega,fun l hl=>key _ (h.gl l hl).1 (h.gl l hl).2.2,fun l hl=>(h.gl l hl).2.1,key _ h.hq.1 h.hq.2,h.ri.1⟩,h.ri.2,ht⟩
end
structure WN (w:World) (s:Sch) (q:Cq) (b:Nat) (L:IL) (a ob vo:Nat) (lo:List Li) (lv:Value) (nb g c B2:Nat) (tab:Nat) (sl:List (Tm V)) (z:World) :Prop where
 ws:WS w s q b L a ob vo lo lv z
 bn:Box z nb #[.int .i64 (tab:Nat),.slice (some ⟨g,0,none⟩) sl.length c] 56
 row:Row z 4 Tm.cells ⟨some ⟨g,0,none⟩,c⟩ sl
 ty:TyAt z g 83
 fr: ∀j,z.frozen? ⟨g,j,none⟩ =false
 gl:B2≤g
 bl:w.heap.size+1+1<B2
 nl:B2≤nb
section
variable {w z y:World} {s:Sch} {q:Cq} {b a a' ob vo nb g c B2 tab:Nat} {L:IL} {lo:List Li} {lv:Value} {sl:List (Tm V)} {T:List (List Int)}
theorem WN.below (h:WN w s q b L a ob vo lo lv nb g c B2 tab sl z) (hb:Below z.heap.size z y) :WN w s q b L a ob vo lo lv nb g c B2 tab sl y:=⟨h.ws.below hb,h.bn.below hb,h.row.mono hb,h.ty.grown (only_below hb none) (by simp),fun j=>by simp only [World.frozen?];rw [hb.block g h.ty.lt];exact h.fr j,h.gl,h.bl,h.nl⟩
theorem WN.tape (h:WN w s q b L a ob vo lo lv nb g c B2 tab sl z) (hg:z.grownBy y (some b)) (ht:TapeIn y b L a') :WN w s q b L a' ob vo lo lv nb g c B2 tab sl y:=by
 have hll:=h.ws.ll.1;have h1:=h.gl;have h2:=h.bl;have h3:=h.nl
 have hne:some g≠some b:=by intro e;injection e with e;omega
 exact⟨h.ws.tape hg ht,h.bn.grown hg (by intro e;injection e with e;omega),row_row h.row hg hne,h.ty.grown hg hne,fun j=>by simp only [World.frozen?];rw [hg.block g h.ty.lt hne];exact h.fr j,h.gl,h.bl,h.nl⟩
theorem WN.slot (h:WN w s q b L a ob vo lo lv nb g c B2 tab sl z) {k:Nat} (hk:k<sl.length) (t:Tm V) :WN w s q b L a ob vo lo lv nb g c B2 tab (sl.set k t) ((((z.setCell ⟨g,k*4,none⟩ (.int .i64 t.nr)).setCell ⟨g,k*4+1,none⟩ (.int .i64 t.val.kind)).setCell ⟨g,k*4+2,none⟩ (.int .i64 t.val.num)).setCell ⟨g,k*4+3,none⟩ (.string t.val.text)):=by
 have hr:=row_set4 h.row hk t;have h1:=h.gl;have h2:=h.bl
 have hrow:Row ((((z.setCell ⟨g,k*4,none⟩ (.int .i64 t.nr)).setCell ⟨g,k*4+1,none⟩ (.int .i64 t.val.kind)).setCell ⟨g,k*4+2,none⟩ (.int .i64 t.val.num)).setCell ⟨g,k*4+3,none⟩ (.string t.val.text)) 4 Tm.cells ⟨some ⟨g,0,none⟩,c⟩ (sl.set k t):=by
  have e: (Hd.o ⟨some ⟨g,0,none⟩,c⟩) +k*4=k*4:=Nat.zero_add _;rw [e]at hr;exact hr
 have hg:z.grownBy ((((z.setCell ⟨g,k*4,none⟩ (.int .i64 t.nr)).setCell ⟨g,k*4+1,none⟩ (.int .i64 t.val.kind)).setCell ⟨g,k*4+2,none⟩ (.int .i64 t.val.num)).setCell ⟨g,k*4+3,none⟩ (.string t.val.text)) (some g):=(((gb_set _ _ _ _).trans (gb_set _ _ _ _)).trans (gb_set _ _ _ _)).trans (gb_set _ _ _ _);refine⟨h.ws.far hg (by omega) ((TyAt.box h.ws.bo).ne h.ty (by decide)) (fun e=>(TyAt.own h.ws.ol e).ne h.ty (by decide) rfl),?_,hrow,(((h.ty.set _ _).set _ _).set _ _).set _ _,fun j=>by rw [frozen_set,frozen_set,frozen_set,frozen_set];exact h.fr j,h.gl,h.bl,h.nl⟩
 rw [List.length_set];exact h.bn.grown hg (by intro e;injection e with e;exact(TyAt.box h.bn).ne h.ty (by decide) e)
theorem WN.vars (h:WN w s q b L a ob vo lo lv nb g c B2 tab sl z) (n:Nat) (hne:nb≠ob) :WN w s q b L a ob n lo lv nb g c B2 tab sl (z.setCell ⟨ob,0,none⟩ (.int .i64 (n:Nat))):=by
 have hg:=gb_set z ob 0 (.int .i64 (n:Nat));have h1:some g≠some ob:=by intro e;injection e with e;exact h.ty.ne (TyAt.box h.ws.bo) (by decide) e
 exact⟨h.ws.vars n,h.bn.grown hg (by intro e;injection e with e;exact hne e),row_row h.row hg h1,h.ty.grown hg h1,fun j=>by rw [frozen_set];exact h.fr j,h.gl,h.bl,h.nl⟩
theorem gb_grow (h:WS w s q b L a ob vo lo lv z) (hg:z.grownBy y lv.ownBlock) :w.grownBy y (some b):=h.gb.andThen hg (fun j e=>.inl (h.ol.lt j e).1)
theorem WN.app {g4 cap4:Nat} (h:WN w s q b L a ob vo lo lv nb g c B2 tab sl z) (hg:z.grownBy y lv.ownBlock) (hown:y.ownsRow w.heap.size 56 2 (.slice (some ⟨g4,0,none⟩) (lo.length+1) cap4) (lo.length+1) (lo.flatMap Li.cells ++ [.int .i64 (tab:Nat),.slice (some ⟨g,0,none⟩) sl.length c]))
  (hr:vo≤1000∧∃τ,Right T vo ⟨(lo ++ [(⟨tab,⟨⟨some ⟨g,0,none⟩,c⟩,sl⟩⟩ :Li)]).map Li.lt,q.head.l⟩ τ) (hqy:q.In y (b+1)) (hold: ∀x,w.grownBy x (some b)→(∀l∈lo,l.sl.In x (b+1)∧l.tab≤1000∧l.sl.h.b<w.heap.size)∧q.head.In x (b+1)∧q.head.h.b<w.heap.size) (hwf: ∀t∈sl,t.wf) (htab:tab≤1000) :
  EndS w s q b L a ob vo (lo ++ [⟨tab,⟨⟨some ⟨g,0,none⟩,c⟩,sl⟩⟩]) ⟨some ⟨g4,0,none⟩,cap4⟩ T (y.setCell ⟨ob,1,none⟩ (.slice (some ⟨g4,0,none⟩) (lo.length+1) cap4))∧Box y ob #[.int .i64 (vo:Nat),lv,.slice q.head.h.ao q.head.l.length q.head.h.cap] 32:=by
 obtain⟨hws,hbo⟩:=h.ws.app (l:=⟨tab,⟨⟨some ⟨g,0,none⟩,c⟩,sl⟩⟩) hg hown
 have h1:=h.gl;have h2:=h.bl;have hll:=h.ws.ll.1
 have hlob:=h.ws.lob;obtain⟨hO1,hO2,hO3⟩:=hold _ hws.gb;have hrow:=row_row (row_row h.row hg (fun e=>(TyAt.own h.ws.ol e.symm).ne h.ty (by decide) rfl)) (gb_set y ob 1 (.slice (some ⟨g4,0,none⟩) (lo.length+1) cap4)) (by intro e;injection e with e;exact h.ty.ne (TyAt.box h.ws.bo) (by decide) e)
 refine⟨⟨by rw [show(lo ++ [(⟨tab,⟨⟨some ⟨g,0,none⟩,c⟩,sl⟩⟩ :Li)]).length=lo.length+1 from List.length_append];exact hws,fun l hl=> ?_,⟨hO2,by omega⟩,hr⟩,hbo⟩
 rcases List.mem_append.1 hl with hl|hl
 ·obtain⟨k1,k2,k3⟩:=hO1 l hl
  exact⟨k1,k2,by omega⟩
 ·rw [List.mem_singleton.1 hl]
  exact⟨⟨hrow,hwf,fun _=>by show b+1≤g;omega⟩,htab,by show g≠_;omega⟩
end
theorem weaker_any (s:Sch) (q:Cq) (w:World) (b:Nat) (L:IL) (a:Nat) (ht:TapeIn w b L a) (ha:a≤4611686018427380000) (hsi: ∀z,w.grownBy z (some b)→s.In z) (hp:PSch s) (rq:RightQ w (colT s) q (b+1)) :
  Calls Tryz.prog 11 #[.pointer (some ⟨b,0,none⟩),.agg #[.slice s.th.ao s.tabs.length s.th.cap],.agg #[.int .i64 (q.vars:Nat),.slice q.lh.ao q.lits.length q.lh.cap,.slice q.head.h.ao q.head.l.length q.head.h.cap]] w (WkPost w b L a (colT s) q):=by
 obtain⟨τ,hr⟩:=rq.ri;have HSI:=ai hsi;have HPS:=ai hp;have HQ:=ai rq.qi;have HR:=ai hr;have HNT:=ai rq.tl;have hlp:0<q.lits.length:=by have h:=hr.n1;rwa [show q.cj.lits.length=q.lits.length from List.length_map _]at h
 have hl8:q.lits.length≤8:=by have h:=hr.n8;rwa [show q.cj.lits.length=q.lits.length from List.length_map _]at h
 have hv16:q.vars≤16:=hr.v16;have HV16:=ai hv16;have HSN:=ai (show∀l∈q.lits,0<l.sl.l.length∧l.sl.l.length≤8 from fun l hl=>by
  obtain⟨_,_,_,cols,_,_,hpc,hlen,_⟩:=lit_tab hp (hr.lit l.lt (List.mem_map_of_mem hl));have:=hpc.l1;have:=hpc.l8;omega)
 have HOLD:=ai (show∀x,w.grownBy x (some b)→(∀l∈q.lits,l.sl.In x (b+1)∧l.tab≤1000∧l.sl.h.b<w.heap.size)∧q.head.In x (b+1)∧q.head.h.b<w.heap.size from fun x hx=>by
  have hq:=HQ.o.grown hx (Nat.lt_succ_self b);exact⟨fun l hl=>⟨hq.sl l hl,hq.tb l hl,(HQ.o.sl l hl).row.blk (i:=0) (HSN.o l hl).1⟩,hq.hd,HQ.o.hd.row.blk (i:=0) hr.h1⟩)
 have hpa:=pos_le L a;have hpa1:=pos_le L (posAt L a);have hpa2:=pos_le L (posAt L (posAt L a));obtain⟨X,hX⟩ : ∃X,((w.alloc (.cells #[.slice s.th.ao s.tabs.length s.th.cap] 27)).alloc (.cells #[.int .i64 (q.vars:Nat),.slice q.lh.ao q.lits.length q.lh.cap,.slice q.head.h.ao q.head.l.length q.head.h.cap] 32)).alloc (.cells #[.int .i64 0,.slice none 0 0,.slice none 0 0] 32) =X:=⟨_,rfl⟩;have HBX:=ai (show Below w.heap.size w X from by rw [←hX];exact bT (belAA _ _) (belA _))
 obtain⟨hb0,hb1,hb2⟩:=boxes3X hX;have HB0:=ai hb0;have HB1:=ai hb1;have HB2:=ai hb2;have HT:=ai ht;clear hsi hp rq hr hb0 hb1 hb2 ht;have HXS:=ai (show w.heap.size+1+1<X.heap.size from HB2.o.lt)
 go_enter Tryz.func11,Tryz.ntmps11;go_upto_region 1 with fail
 try rw [hX]
 clear hX;refine wk_reg1 (g5:=w.heap.size+1) (q:=q) (W:=X) HB1 (ai ((HQ.o.mono HBX.o).le (Nat.zero_le _))) (ai ⟨hlp,by omega⟩) (ai (HQ.o.row.2.2.1 hlp).1) ?hc ?hend
 case hc=>rfl
 case hend=>
  intro b4 g7 c7 g8 c8 ob x hb hown hbox hge;have HWS:=ai (show WS w s q b L a ob q.vars q.lits (.slice (some ⟨g8,0,none⟩) q.lits.length c8) (((x.setCell ⟨ob,0,none⟩ (.int .i64 (q.vars:Nat))).setCell ⟨ob,1,none⟩ (.slice (some ⟨g8,0,none⟩) q.lits.length c8)).setCell ⟨ob,2,none⟩ (.slice q.head.h.ao q.head.l.length q.head.h.cap))from by
   have hg:=set3 x ob (.int .i64 (q.vars:Nat)) (.slice (some ⟨g8,0,none⟩) q.lits.length c8) (.slice q.head.h.ao q.head.l.length q.head.h.cap);have hxs:=HXS.o;have hbx:=bT HBX.o hb;have hlow:=HT.o.low;have hs:=((hbox.set 0 (.int .i64 (q.vars:Nat))).set 1 (.slice (some ⟨g8,0,none⟩) q.lits.length c8)).set 2 (.slice q.head.h.ao q.head.l.length q.head.h.cap);simp only [List.setIfInBounds_toArray,List.set_cons_zero,List.set_cons_succ]at hs;exact⟨gb_then (only_below hbx _) hg (by omega),hlow,tz2 (HT.o.mono hbx) hg hlow (by omega),(HB0.o.below hb).grown hg (by intro e;injection e with e;omega),(HB1.o.below hb).grown hg (by intro e;injection e with e;omega),(HB2.o.below hb).grown hg (by intro e;injection e with e;omega),hs,by omega,own_base (hown.kept hg (.inr (fun e=>(TyAt.own hown e).ne (TyAt.box hbox) (by decide) rfl))) (by omega)⟩)
  have HGE:=ai hge;clear hb hown hbox hge;generalize ((x.setCell ⟨ob,0,none⟩ (.int .i64 (q.vars:Nat))).setCell ⟨ob,1,none⟩ (.slice (some ⟨g8,0,none⟩) q.lits.length c8)).setCell ⟨ob,2,none⟩ (.slice q.head.h.ao q.head.l.length q.head.h.cap) =Y at *;obtain⟨m,hm⟩ : ∃m,nAt L a 2=m:=⟨_,rfl⟩;have HM:=ai hm;clear hm;have h64:int64 (2:Int):=by constructor<;>decide
  have HLAST:=ai (fun(z:World) (a2:Nat) (h:WS w s q b L a2 ob q.vars q.lits (.slice (some ⟨g8,0,none⟩) q.lits.length c8) z)=>show EndS w s q b L a2 ob q.vars q.lits ⟨some ⟨g8,0,none⟩,c8⟩ (colT s) z from
   ⟨h,fun l hl=>⟨((HOLD.o z h.gb).1 l hl).1,((HOLD.o z h.gb).1 l hl).2.1,by have:=((HOLD.o z h.gb).1 l hl).2.2;omega⟩,⟨(HOLD.o z h.gb).2.1,by have:=(HOLD.o z h.gb).2.2;omega⟩,⟨by have:=HV16.o;omega,τ,HR.o⟩⟩)
  by_cases hm0:m=0
  ·have hmb: (m == 0) =true:=beq_iff_eq.2 hm0
   clear hm0;by_cases hl5:q.lits.length<5
   ·have hl5i: (q.lits.length:Int) <5:=by omega
    obtain⟨j,hj,hjn⟩ : ∃j:Nat,j<q.lits.length∧nAt L (posAt L a) (q.lits.length:Int) = (j:Int):=by
     have h:=fmod_ok (x:=rawAt L (posAt L a)) (n:=(q.lits.length:Int)) (by omega)
     exact⟨(nAt L (posAt L a) (q.lits.length:Int)).toNat,by unfold nAt;omega,by unfold nAt;omega⟩
    have HJN:=ai hjn;have HJ:=ai hj;obtain⟨l,hl⟩ : ∃l,q.lits[j]'HJ.o=l:=⟨_,rfl⟩;have HL:=ai hl;have HLM:=ai (show l∈q.lits from by rw [←hl];exact List.getElem_mem _)
    clear hjn hl hj;have HLT:=ai (show l.tab≤1000 from HQ.o.tb l HLM.o)
    have HSL:=ai (HSN.o l HLM.o);have HL5:=ai (show q.lits.length≤4 from by omega)
    go_wp2_with (go_at_call 10;refine(n_any _ b a L 2 HWS.o.tp (by omega) h64).mono ?_;rintro e y ⟨rfl,h1,h2⟩;rw [HM.o];have HW1:=ai (HWS.o.tape h2 h1);have oo1:y.cell? ⟨ob,1,none⟩ =some (.slice (some ⟨g8,0,none⟩) q.lits.length c8):=HW1.o.bo.cell rfl;clear h1 h2)
    clear oo1;refine wk_reg3 (g5:=w.heap.size+1) (q:=q) (b:=b) (L:=L) (a:=posAt L a) (B:=b+1) (j:=j) (l:=l) (W:=y) (ai (by omega)) (ai (by omega)) HJN HJ HL (ai ⟨only_below ((Below.refl _ _).drew) _,HW1.o.bq.below ((Below.refl _ _).drew),by rw [if_neg (by decide)];exact HW1.o.tp.mono ((Below.refl _ _).drew),(HQ.o.grown HW1.o.gb (Nat.lt_succ_self b)).mono ((Below.refl _ _).drew),Nat.lt_succ_self b,by have:=HW1.o.ll.1;omega⟩) ?hc ?hend
    case hc=>rfl
    case hend=>
     intro lb x2 hg2 ht2 hbx2 hge2 _;have hobl:=HW1.o.bo.lt;have hobo:=HW1.o.lob;have hwl0:=HW1.o.bs.lt;have HW2:=ai (((HW1.o.tape hg2 ht2).far (gb_set x2 lb 0 (.int .i64 (l.tab:Nat))) (by omega) (by omega) (fun e=>by have:=(HW1.o.ol.lt _ e).2;omega)).far (gb_set _ lb 1 (.slice l.sl.h.ao l.sl.l.length l.sl.h.cap)) (by omega) (by omega) (fun e=>by have:=(HW1.o.ol.lt _ e).2;omega))
     have HLB:=ai (show Box ((x2.setCell ⟨lb,0,none⟩ (.int .i64 (l.tab:Nat))).setCell ⟨lb,1,none⟩ (.slice l.sl.h.ao l.sl.l.length l.sl.h.cap)) lb #[.int .i64 (l.tab:Nat),.slice l.sl.h.ao l.sl.l.length l.sl.h.cap] 56 from by
      have hs:=(hbx2.set 0 (.int .i64 (l.tab:Nat))).set 1 (.slice l.sl.h.ao l.sl.l.length l.sl.h.cap)
      simpa only [List.setIfInBounds_toArray,List.set_cons_zero,List.set_cons_succ]using hs)
     clear hg2 ht2 hbx2 hge2 hobl hobo hwl0;generalize (x2.setCell ⟨lb,0,none⟩ (.int .i64 (l.tab:Nat))).setCell ⟨lb,1,none⟩ (.slice l.sl.h.ao l.sl.l.length l.sl.h.cap) =Y2 at *;have HLR:=ai ((HOLD.o _ HW2.o.gb).1 l HLM.o).1.row;go_wp2;refine wk_reg4 (lb:=lb) (l:=l) (W:=Y2) HLB HLR (ai (by have:=HSL.o;omega)) (ai (HLR.o.2.2.1 HSL.o.1).1) ?hc ?hend
     case hc=>rfl
     case hend=>
      intro b2 g5 c5 g6 c6 nb x3 hb3 hown3 hbx3 hge3;have hobl:=HW2.o.bo.lt;have hobo:=HW2.o.lob;have hwl0:=HW2.o.bs.lt;have HNO:=ai (show nb≠ob from by omega)
      have HWN:=ai (show WN w s q b L (posAt L (posAt L a)) ob q.vars q.lits (.slice (some ⟨g8,0,none⟩) q.lits.length c8) nb g6 c6 Y2.heap.size l.tab l.sl.l ((x3.setCell ⟨nb,0,none⟩ (.int .i64 (l.tab:Nat))).setCell ⟨nb,1,none⟩ (.slice (some ⟨g6,0,none⟩) l.sl.l.length c6))from by
       have hs:=(hbx3.set 0 (.int .i64 (l.tab:Nat))).set 1 (.slice (some ⟨g6,0,none⟩) l.sl.l.length c6);simp only [List.setIfInBounds_toArray,List.set_cons_zero,List.set_cons_succ]at hs;have hty:=TyAt.own hown3 (b:=g6) rfl
       have hg:=(gb_set x3 nb 0 (.int .i64 (l.tab:Nat))).trans (gb_set _ nb 1 (.slice (some ⟨g6,0,none⟩) l.sl.l.length c6));have hne:some g6≠some nb:=by intro e;injection e with e;exact hty.ne (TyAt.box hbx3) (by decide) e
       exact⟨(HW2.o.below hb3).far hg (by omega) (by omega) (fun e=>by have:=(HW2.o.ol.lt _ e).2;omega),hs,row_row (own_row0 Tm.cells_len (by decide) hown3) hg hne,hty.grown hg hne,fun j=>by rw [frozen_set,frozen_set];exact hown3.frozenAt j,(hown3.lt g6 rfl).1,by omega,hge3⟩)
      clear hb3 hown3 hbx3 hge3 hobl hobo hwl0;generalize (x3.setCell ⟨nb,0,none⟩ (.int .i64 (l.tab:Nat))).setCell ⟨nb,1,none⟩ (.slice (some ⟨g6,0,none⟩) l.sl.l.length c6) =Y3 at *;have hpa3:=pos_le L (posAt L (posAt L a));obtain⟨k,hk,hkn⟩ : ∃k:Nat,k<l.sl.l.length∧nAt L (posAt L (posAt L a)) (l.sl.l.length:Int) = (k:Int):=by
       have h:=fmod_ok (x:=rawAt L (posAt L (posAt L a))) (n:=(l.sl.l.length:Int)) (by have:=HSL.o.1;omega)
       exact⟨(nAt L (posAt L (posAt L a)) (l.sl.l.length:Int)).toNat,by unfold nAt;omega,by unfold nAt;omega⟩
      have HKN:=ai hkn;have HK:=ai hk;have n1:Y3.cell? ⟨nb,1,none⟩ =some (.slice (some ⟨g6,0,none⟩) l.sl.l.length c6):=HWN.o.bn.cell rfl;have h64l:int64 (l.sl.l.length:Int):=by have:=HSL.o.2;constructor<;>omega
      clear hkn hk;have hArm:=trivial;by_cases hv:q.vars<16
      ·have hvi: (q.vars:Int) <16:=by omega
       go_upto_region 7 with(go_at_call 10;refine(n_any _ b _ L l.sl.l.length HWN.o.ws.tp (by omega) h64l).mono ?_;rintro e y3 ⟨rfl,h1,h2⟩;rw [HKN.o];have HWM:=ai (HWN.o.tape h2 h1);clear h1 h2 n1;have n1:y3.cell? ⟨nb,1,none⟩ =some (.slice (some ⟨g6,0,none⟩) l.sl.l.length c6):=HWM.o.bn.cell rfl;have o0:y3.cell? ⟨ob,0,none⟩ =some (.int .i64 (q.vars:Nat)):=HWM.o.ws.bo.cell rfl)
       clear HWN;have hk:=HK.o;have hln:=HSL.o.2;have hixg: ∀W,(Instr.indexAt 30 (.slice (some ⟨g6,0,none⟩) l.sl.l.length c6) (.int .i64 (k:Nat))).run Tryz.prog W = .ok (.pointer (some ⟨g6,k*4,none⟩)) W:=fun W=>by
        obtain⟨jj,hjj,hsz⟩:=Option.map_eq_some_iff.1 szslot;have he:Tryz.prog.elem 30=83:=by simp [Program.elem,Tryz.underlying30]
        rw [run_indexAt_slice _ _ _ _ _ _ _ (by rw [he];exact Tryz.underlying30),he,if_pos ⟨by omega,by omega⟩]
        simp [sizeOf,typeInfo,hjj,hsz,Addr.add_lit]
       obtain⟨d0,d1,d2,d3⟩:=tm_at HWM.o.row hk;have c0:y3.cell? ⟨g6,k*4,none⟩ =some (.int .i64 (l.sl.l[k]).nr):=cell_off (show(Hd.o ⟨some ⟨g6,0,none⟩,c6⟩) +k*4=k*4 from Nat.zero_add _) d0
       have c1:y3.cell? ⟨g6,k*4+1,none⟩ =some (.int .i64 (l.sl.l[k]).val.kind):=cell_off (show(Hd.o ⟨some ⟨g6,0,none⟩,c6⟩) +k*4+1=k*4+1 from congrArg (· + 1) (Nat.zero_add _)) d1
       have c2:y3.cell? ⟨g6,k*4+2,none⟩ =some (.int .i64 (l.sl.l[k]).val.num):=cell_off (show(Hd.o ⟨some ⟨g6,0,none⟩,c6⟩) +k*4+2=k*4+2 from congrArg (· + 2) (Nat.zero_add _)) d2
       have c3:y3.cell? ⟨g6,k*4+3,none⟩ =some (.string (l.sl.l[k]).val.text):=cell_off (show(Hd.o ⟨some ⟨g6,0,none⟩,c6⟩) +k*4+3=k*4+3 from congrArg (· + 3) (Nat.zero_add _)) d3
       clear d0 d1 d2 d3;have f0:=HWM.o.fr (k*4);have f1:=HWM.o.fr (k*4+1);have f2:=HWM.o.fr (k*4+2);have f3:=HWM.o.fr (k*4+3);have HW6:=ai (show WN w s q b L _ ob q.vars q.lits (.slice (some ⟨g8,0,none⟩) q.lits.length c8) nb g6 c6 Y2.heap.size l.tab (l.sl.l.set k (.v q.vars)) ((((y3.setCell ⟨g6,k*4,none⟩ (.int .i64 (q.vars:Nat))).setCell ⟨g6,k*4+1,none⟩ (.int .i64 0)).setCell ⟨g6,k*4+2,none⟩ (.int .i64 0)).setCell ⟨g6,k*4+3,none⟩ (.string ⟨#[]⟩))from HWM.o.slot hk (.v q.vars))
       go_upto_region 8 with fail
       generalize (((y3.setCell ⟨g6,k*4,none⟩ (.int .i64 (q.vars:Nat))).setCell ⟨g6,k*4+1,none⟩ (.int .i64 0)).setCell ⟨g6,k*4+2,none⟩ (.int .i64 0)).setCell ⟨g6,k*4+3,none⟩ (.string ⟨#[]⟩) =Y6 at *;clear n1 o0 hixg c0 c1 c2 c3 f0 f1 f2 f3 HWM hk;have o0:Y6.cell? ⟨ob,0,none⟩ =some (.int .i64 (q.vars:Nat)):=HW6.o.ws.bo.cell rfl;have qf:=HW6.o.ws.bo.fr 0;have hvv: ((q.vars+1:Nat) :Int) = (q.vars:Int) +1:=by omega
       have HW7:=ai (HW6.o.vars (q.vars+1) HNO.o);rw [hvv]at HW7;clear hvv;go_upto_region 9 with fail
       generalize Y6.setCell ⟨ob,0,none⟩ (.int .i64 ((q.vars:Int) +1)) =Y7 at *;clear o0 qf HW6;obtain⟨vo,hvo⟩ : ∃v,q.vars+1=v:=⟨_,rfl⟩;have HVO:=ai hvo;rw [hvo]at HW7;clear hvo;have HWN:=HW7;clear HW7;obtain⟨sl,hsl⟩ : ∃x,(l.sl.l.set k (.v q.vars)) =x:=⟨_,rfl⟩;have HSLL:=ai (show sl.length=l.sl.l.length from by rw [←hsl];exact List.length_set)
       have HRI:=ai (show vo≤1000∧∃τ,Right (colT s) vo ⟨(q.lits ++ [(⟨l.tab,⟨⟨some ⟨g6,0,none⟩,c6⟩,sl⟩⟩ :Li)]).map Li.lt,q.head.l⟩ τ from by rw [←hsl];rw [List.map_append,←HVO.o];exact⟨by have:=HV16.o;omega,HR.o.weak (l:=l.lt) (List.mem_map_of_mem HLM.o) (by rw [show q.cj.lits.length=q.lits.length from List.length_map _];exact HL5.o) hv HK.o⟩)
       have HSW:=ai (show∀t∈sl,t.wf from by rw [←hsl];exact wf_set (HQ.o.sl l HLM.o).wf (show Tm.wf (.v q.vars)from(show q.vars≤1000 from(by have:=HV16.o;omega))) k)
       rw [hsl]at HWN;clear hsl;obtain⟨i0,hi,hz0,hz1,hz2⟩:=info_parts info_lit;have n0:Y7.cell? ⟨nb,0,none⟩ =some (.int .i64 (l.tab:Nat)):=HWN.o.bn.cell rfl;have n1:Y7.cell? ⟨nb,1,none⟩ =some (.slice (some ⟨g6,0,none⟩) sl.length c6):=HWN.o.bn.cell rfl;have o1:Y7.cell? ⟨ob,1,none⟩ =some (.slice (some ⟨g8,0,none⟩) q.lits.length c8):=HWN.o.ws.bo.cell rfl;have hnl:=HWN.o.bn.lt;have hol:=HWN.o.ws.bo.lt;have HWA:=ai (HWN.o.below (belA (w:=Y7) (.cells #[.int .i64 (l.tab:Nat),.slice (some ⟨g6,0,none⟩) sl.length c6] 56)))
       have hwl2:w.heap.size≤Y7.heap.size+1:=by have:=HWN.o.ws.bs.lt;omega
       go_wp2_with (at_builtin;refine wpList_append_own _ rfl _ _ 29 rfl w.heap.size 56 i0 (.agg #[.int .i64 0,.slice none 0 0]) 2 32 Tryz.underlying29 hi hz0 hz1 hz2 rfl (by decide) _ q.lits.length _ rfl HWA.o.ws.ol ⟨Y7.heap.size,0,none⟩ 1 1 [.int .i64 (l.tab:Nat),.slice (some ⟨g6,0,none⟩) sl.length c6] rfl rfl ?c1 ?c2 ?c3 ?c4 ?c5 ?_)
       case c1=>exact new_cells (l:= [_,_])
       case c2=>exact two_one rfl rfl
       case c3=>unfold maxLen;omega
       case c4=>omega
       case c5=>simp;omega
       intro v2 z2 hown hgr _;obtain⟨g4,cap4,rfl⟩:=ownsRow_succ hown;obtain⟨he,hbo⟩:=HWA.o.app (T:=colT s) hgr hown HRI.o (HQ.o.grown (gb_grow HWA.o.ws hgr) (Nat.lt_succ_self b)) HOLD.o HSW.o HLT.o
       have HE:=ai he;have q1:=hbo.cell (j:=1) (v:=.slice (some ⟨g8,0,none⟩) q.lits.length c8) rfl
       have qf:=hbo.fr 1;clear hown hgr hi hz0 hz1 hz2 he hbo n0 n1 o1 hnl hol hwl2 HWA HWN;go_upto_region 10 with fail
       generalize z2.setCell ⟨ob,1,none⟩ (.slice (some ⟨g4,0,none⟩) (q.lits.length+1) cap4) =Z5 at *;clear q1 qf;obtain⟨hd,hd1⟩ : ∃h:Hd,h= ⟨some ⟨g4,0,none⟩,cap4⟩:=⟨_,rfl⟩;have e1: (some ⟨g4,0,none⟩ :Option Addr) =hd.ao:=by rw [hd1]
       have e2:cap4=hd.cap:=by rw [hd1]
       have e3:q.lits.length+1= (q.lits ++ [(⟨l.tab,⟨⟨some ⟨g6,0,none⟩,c6⟩,sl⟩⟩ :Li)]).length:=by rw [List.length_append];rfl
       rw [e1,e2]at HE ⊢;rw [e3];have HE:=ai (show EndS w s q b L _ ob vo (q.lits ++ [(⟨l.tab,⟨⟨some ⟨g6,0,none⟩,c6⟩,sl⟩⟩ :Li)]) hd (colT s) Z5 from HE.o)
       clear e1 e2 e3 hd1;obtain⟨lo,hlo⟩ : ∃x,q.lits ++ [(⟨l.tab,⟨⟨some ⟨g6,0,none⟩,c6⟩,sl⟩⟩ :Li)] =x:=⟨_,rfl⟩;rw [hlo]at HE ⊢;have HWF:=ai (show WkF q lo from by rw [←hlo];exact⟨fun l hl=>List.mem_append_left _ hl,.inr (by rw [List.length_append];have:=HL5.o;simp only [List.length_cons,List.length_nil];omega)⟩)
       clear hlo HRI;have z0:Z5.cell? ⟨w.heap.size,0,none⟩ =some (.slice s.th.ao s.tabs.length s.th.cap):=HE.o.ws.bs.cell rfl;have o0:Z5.cell? ⟨ob,0,none⟩ =some (.int .i64 (vo:Nat)):=HE.o.ws.bo.cell rfl;have o1:Z5.cell? ⟨ob,1,none⟩ =some (.slice hd.ao lo.length hd.cap):=HE.o.ws.bo.cell rfl;have o2:Z5.cell? ⟨ob,2,none⟩ =some (.slice q.head.h.ao q.head.l.length q.head.h.cap):=HE.o.ws.bo.cell rfl;have hol:=HE.o.ws.bo.lt;have hwl:=HE.o.ws.bs.lt;have HRQ:=ai (HE.o.right HNT.o);go_wp2_with (go_at_call 32;refine(rright_yes s ⟨vo,hd,lo,q.head⟩ (b+1) Z5 (HSI.o _ HE.o.ws.gb) HPS.o HRQ.o).mono ?_;rintro e y9 ⟨rfl,hb9⟩;have HE9:=ai (HE.o.below hb9);clear hb9 z0 o0 o1 o2;have o0:y9.cell? ⟨ob,0,none⟩ =some (.int .i64 (vo:Nat)):=HE9.o.ws.bo.cell rfl;have o1:y9.cell? ⟨ob,1,none⟩ =some (.slice hd.ao lo.length hd.cap):=HE9.o.ws.bo.cell rfl;have o2:y9.cell? ⟨ob,2,none⟩ =some (.slice q.head.h.ao q.head.l.length q.head.h.cap):=HE9.o.ws.bo.cell rfl;have r0:y9.cell? ⟨w.heap.size+1+1,0,none⟩ =some (.int .i64 0):=HE9.o.ws.br.cell rfl;have r1:y9.cell? ⟨w.heap.size+1+1,1,none⟩ =some (.slice none 0 0):=HE9.o.ws.br.cell rfl;have r2:y9.cell? ⟨w.heap.size+1+1,2,none⟩ =some (.slice none 0 0):=HE9.o.ws.br.cell rfl;have f0:=HE9.o.ws.br.fr 0;have f1:=HE9.o.ws.br.fr 1;have f2:=HE9.o.ws.br.fr 2)
       have HG9:=ai (set3 y9 (w.heap.size+1+1) (.int .i64 (vo:Nat)) (.slice hd.ao lo.length hd.cap) (.slice q.head.h.ao q.head.l.length q.head.h.cap));refine bodyPost_ret (v:=.agg #[.int .i64 (vo:Nat),.slice hd.ao lo.length hd.cap,.slice q.head.h.ao q.head.l.length q.head.h.cap]) ?_ ?_ ?_
       case refine_3=>exact⟨⟨vo,hd,lo,q.head⟩,_,rfl,HE9.o.fin HNT.o HG9.o,tz2 HE9.o.ws.tp HG9.o HE9.o.ws.ll (by omega),⟨by omega,rfl,HWF.o⟩,gb_then HE9.o.ws.gb HG9.o (by omega)⟩
       case refine_2=>rfl
       simp [results,Tryz.results11,go_sem,r0,r1,r2]
      ·have hvi: ¬(q.vars:Int) <16:=by omega
       go_upto_region 9 with(go_at_call 10;refine(n_any _ b _ L l.sl.l.length HWN.o.ws.tp (by omega) h64l).mono ?_;rintro e y3 ⟨rfl,h1,h2⟩;rw [HKN.o];have HWM:=ai (HWN.o.tape h2 h1);clear h1 h2 n1;have o0:y3.cell? ⟨ob,0,none⟩ =some (.int .i64 (q.vars:Nat)):=HWM.o.ws.bo.cell rfl)
       clear HWN o0;obtain⟨vo,hvo⟩ : ∃v,q.vars=v:=⟨_,rfl⟩;have HVO:=ai hvo;rw [hvo]at HWM;clear hvo;have HWN:=HWM;clear HWM;obtain⟨sl,hsl⟩ : ∃x,l.sl.l=x:=⟨_,rfl⟩;have HSLL:=ai (show sl.length=l.sl.l.length from by rw [←hsl];skip)
       have HRI:=ai (show vo≤1000∧∃τ,Right (colT s) vo ⟨(q.lits ++ [(⟨l.tab,⟨⟨some ⟨g6,0,none⟩,c6⟩,sl⟩⟩ :Li)]).map Li.lt,q.head.l⟩ τ from by rw [←hsl];rw [List.map_append,←HVO.o];exact⟨by have:=HV16.o;omega,τ,HR.o.again (l:=l.lt) (List.mem_map_of_mem HLM.o) (by rw [show q.cj.lits.length=q.lits.length from List.length_map _];exact HL5.o)⟩)
       have HSW:=ai (show∀t∈sl,t.wf from by rw [←hsl];exact(HQ.o.sl l HLM.o).wf)
       rw [hsl]at HWN;clear hsl;obtain⟨i0,hi,hz0,hz1,hz2⟩:=info_parts info_lit;have n0:y3.cell? ⟨nb,0,none⟩ =some (.int .i64 (l.tab:Nat)):=HWN.o.bn.cell rfl;have n1:y3.cell? ⟨nb,1,none⟩ =some (.slice (some ⟨g6,0,none⟩) sl.length c6):=HWN.o.bn.cell rfl;have o1:y3.cell? ⟨ob,1,none⟩ =some (.slice (some ⟨g8,0,none⟩) q.lits.length c8):=HWN.o.ws.bo.cell rfl;have hnl:=HWN.o.bn.lt;have hol:=HWN.o.ws.bo.lt;have HWA:=ai (HWN.o.below (belA (w:=y3) (.cells #[.int .i64 (l.tab:Nat),.slice (some ⟨g6,0,none⟩) sl.length c6] 56)))
       have hwl2:w.heap.size≤y3.heap.size+1:=by have:=HWN.o.ws.bs.lt;omega
       go_wp2_with (at_builtin;refine wpList_append_own _ rfl _ _ 29 rfl w.heap.size 56 i0 (.agg #[.int .i64 0,.slice none 0 0]) 2 32 Tryz.underlying29 hi hz0 hz1 hz2 rfl (by decide) _ q.lits.length _ rfl HWA.o.ws.ol ⟨y3.heap.size,0,none⟩ 1 1 [.int .i64 (l.tab:Nat),.slice (some ⟨g6,0,none⟩) sl.length c6] rfl rfl ?c1 ?c2 ?c3 ?c4 ?c5 ?_)
       case c1=>exact new_cells (l:= [_,_])
       case c2=>exact two_one rfl rfl
       case c3=>unfold maxLen;omega
       case c4=>omega
       case c5=>simp;omega
       intro v2 z2 hown hgr _;obtain⟨g4,cap4,rfl⟩:=ownsRow_succ hown;obtain⟨he,hbo⟩:=HWA.o.app (T:=colT s) hgr hown HRI.o (HQ.o.grown (gb_grow HWA.o.ws hgr) (Nat.lt_succ_self b)) HOLD.o HSW.o HLT.o
       have HE:=ai he;have q1:=hbo.cell (j:=1) (v:=.slice (some ⟨g8,0,none⟩) q.lits.length c8) rfl
       have qf:=hbo.fr 1;clear hown hgr hi hz0 hz1 hz2 he hbo n0 n1 o1 hnl hol hwl2 HWA HWN;go_upto_region 10 with fail
       generalize z2.setCell ⟨ob,1,none⟩ (.slice (some ⟨g4,0,none⟩) (q.lits.length+1) cap4) =Z5 at *;clear q1 qf;obtain⟨hd,hd1⟩ : ∃h:Hd,h= ⟨some ⟨g4,0,none⟩,cap4⟩:=⟨_,rfl⟩;have e1: (some ⟨g4,0,none⟩ :Option Addr) =hd.ao:=by rw [hd1]
       have e2:cap4=hd.cap:=by rw [hd1]
       have e3:q.lits.length+1= (q.lits ++ [(⟨l.tab,⟨⟨some ⟨g6,0,none⟩,c6⟩,sl⟩⟩ :Li)]).length:=by rw [List.length_append];rfl
       rw [e1,e2]at HE ⊢;rw [e3];have HE:=ai (show EndS w s q b L _ ob vo (q.lits ++ [(⟨l.tab,⟨⟨some ⟨g6,0,none⟩,c6⟩,sl⟩⟩ :Li)]) hd (colT s) Z5 from HE.o)
       clear e1 e2 e3 hd1;obtain⟨lo,hlo⟩ : ∃x,q.lits ++ [(⟨l.tab,⟨⟨some ⟨g6,0,none⟩,c6⟩,sl⟩⟩ :Li)] =x:=⟨_,rfl⟩;rw [hlo]at HE ⊢;have HWF:=ai (show WkF q lo from by rw [←hlo];exact⟨fun l hl=>List.mem_append_left _ hl,.inr (by rw [List.length_append];have:=HL5.o;simp only [List.length_cons,List.length_nil];omega)⟩)
       clear hlo HRI;have z0:Z5.cell? ⟨w.heap.size,0,none⟩ =some (.slice s.th.ao s.tabs.length s.th.cap):=HE.o.ws.bs.cell rfl;have o0:Z5.cell? ⟨ob,0,none⟩ =some (.int .i64 (vo:Nat)):=HE.o.ws.bo.cell rfl;have o1:Z5.cell? ⟨ob,1,none⟩ =some (.slice hd.ao lo.length hd.cap):=HE.o.ws.bo.cell rfl;have o2:Z5.cell? ⟨ob,2,none⟩ =some (.slice q.head.h.ao q.head.l.length q.head.h.cap):=HE.o.ws.bo.cell rfl;have hol:=HE.o.ws.bo.lt;have hwl:=HE.o.ws.bs.lt;have HRQ:=ai (HE.o.right HNT.o);go_wp2_with (go_at_call 32;refine(rright_yes s ⟨vo,hd,lo,q.head⟩ (b+1) Z5 (HSI.o _ HE.o.ws.gb) HPS.o HRQ.o).mono ?_;rintro e y9 ⟨rfl,hb9⟩;have HE9:=ai (HE.o.below hb9);clear hb9 z0 o0 o1 o2;have o0:y9.cell? ⟨ob,0,none⟩ =some (.int .i64 (vo:Nat)):=HE9.o.ws.bo.cell rfl;have o1:y9.cell? ⟨ob,1,none⟩ =some (.slice hd.ao lo.length hd.cap):=HE9.o.ws.bo.cell rfl;have o2:y9.cell? ⟨ob,2,none⟩ =some (.slice q.head.h.ao q.head.l.length q.head.h.cap):=HE9.o.ws.bo.cell rfl;have r0:y9.cell? ⟨w.heap.size+1+1,0,none⟩ =some (.int .i64 0):=HE9.o.ws.br.cell rfl;have r1:y9.cell? ⟨w.heap.size+1+1,1,none⟩ =some (.slice none 0 0):=HE9.o.ws.br.cell rfl;have r2:y9.cell? ⟨w.heap.size+1+1,2,none⟩ =some (.slice none 0 0):=HE9.o.ws.br.cell rfl;have f0:=HE9.o.ws.br.fr 0;have f1:=HE9.o.ws.br.fr 1;have f2:=HE9.o.ws.br.fr 2)
       have HG9:=ai (set3 y9 (w.heap.size+1+1) (.int .i64 (vo:Nat)) (.slice hd.ao lo.length hd.cap) (.slice q.head.h.ao q.head.l.length q.head.h.cap));refine bodyPost_ret (v:=.agg #[.int .i64 (vo:Nat),.slice hd.ao lo.length hd.cap,.slice q.head.h.ao q.head.l.length q.head.h.cap]) ?_ ?_ ?_
       case refine_3=>exact⟨⟨vo,hd,lo,q.head⟩,_,rfl,HE9.o.fin HNT.o HG9.o,tz2 HE9.o.ws.tp HG9.o HE9.o.ws.ll (by omega),⟨by omega,rfl,HWF.o⟩,gb_then HE9.o.ws.gb HG9.o (by omega)⟩
       case refine_2=>rfl
       simp [results,Tryz.results11,go_sem,r0,r1,r2]
   ·have hl5i: ¬(q.lits.length:Int) <5:=by omega
    go_upto_region 10 with(go_at_call 10;refine(n_any _ b a L 2 HWS.o.tp (by omega) h64).mono ?_;rintro e y ⟨rfl,h1,h2⟩;rw [HM.o];have HW1:=ai (HWS.o.tape h2 h1);have oo1:y.cell? ⟨ob,1,none⟩ =some (.slice (some ⟨g8,0,none⟩) q.lits.length c8):=HW1.o.bo.cell rfl;clear h1 h2)
    have HE:=ai (HLAST.o _ _ HW1.o);obtain⟨hd,hd1⟩ : ∃h:Hd,h= ⟨some ⟨g8,0,none⟩,c8⟩:=⟨_,rfl⟩;rw [←hd1]at HE;have e1: (some ⟨g8,0,none⟩ :Option Addr) =hd.ao:=by rw [hd1]
    have e2:c8=hd.cap:=by rw [hd1]
    rw [e1,e2];clear e1 e2 hd1 oo1;have z0:y.cell? ⟨w.heap.size,0,none⟩ =some (.slice s.th.ao s.tabs.length s.th.cap):=HE.o.ws.bs.cell rfl;have o0:y.cell? ⟨ob,0,none⟩ =some (.int .i64 (q.vars:Nat)):=HE.o.ws.bo.cell rfl;have o1:y.cell? ⟨ob,1,none⟩ =some (.slice hd.ao q.lits.length hd.cap):=HE.o.ws.bo.cell rfl;have o2:y.cell? ⟨ob,2,none⟩ =some (.slice q.head.h.ao q.head.l.length q.head.h.cap):=HE.o.ws.bo.cell rfl;have hol:=HE.o.ws.bo.lt;have hwl:=HE.o.ws.bs.lt;have HRQ:=ai (HE.o.right HNT.o);go_wp2_with (go_at_call 32;refine(rright_yes s ⟨q.vars,hd,q.lits,q.head⟩ (b+1) y (HSI.o _ HE.o.ws.gb) HPS.o HRQ.o).mono ?_;rintro e y9 ⟨rfl,hb9⟩;have HE9:=ai (HE.o.below hb9);clear hb9 z0 o0 o1 o2;have o0:y9.cell? ⟨ob,0,none⟩ =some (.int .i64 (q.vars:Nat)):=HE9.o.ws.bo.cell rfl;have o1:y9.cell? ⟨ob,1,none⟩ =some (.slice hd.ao q.lits.length hd.cap):=HE9.o.ws.bo.cell rfl;have o2:y9.cell? ⟨ob,2,none⟩ =some (.slice q.head.h.ao q.head.l.length q.head.h.cap):=HE9.o.ws.bo.cell rfl;have r0:y9.cell? ⟨w.heap.size+1+1,0,none⟩ =some (.int .i64 0):=HE9.o.ws.br.cell rfl;have r1:y9.cell? ⟨w.heap.size+1+1,1,none⟩ =some (.slice none 0 0):=HE9.o.ws.br.cell rfl;have r2:y9.cell? ⟨w.heap.size+1+1,2,none⟩ =some (.slice none 0 0):=HE9.o.ws.br.cell rfl;have f0:=HE9.o.ws.br.fr 0;have f1:=HE9.o.ws.br.fr 1;have f2:=HE9.o.ws.br.fr 2)
    have HG9:=ai (set3 y9 (w.heap.size+1+1) (.int .i64 (q.vars:Nat)) (.slice hd.ao q.lits.length hd.cap) (.slice q.head.h.ao q.head.l.length q.head.h.cap));refine bodyPost_ret (v:=.agg #[.int .i64 (q.vars:Nat),.slice hd.ao q.lits.length hd.cap,.slice q.head.h.ao q.head.l.length q.head.h.cap]) ?_ ?_ ?_
    case refine_3=>exact⟨⟨q.vars,hd,q.lits,q.head⟩,_,rfl,HE9.o.fin HNT.o HG9.o,tz2 HE9.o.ws.tp HG9.o HE9.o.ws.ll (by omega),⟨by omega,rfl,WkF.refl _⟩,gb_then HE9.o.ws.gb HG9.o (by omega)⟩
    case refine_2=>rfl
    simp [results,Tryz.results11,go_sem,r0,r1,r2]
  ·have hmb: (m == 0) =false:=beq_eq_false_iff_ne.2 hm0
   clear hm0;go_upto_region 10 with(go_at_call 10;refine(n_any _ b a L 2 HWS.o.tp (by omega) h64).mono ?_;rintro e y ⟨rfl,h1,h2⟩;rw [HM.o];have HW1:=ai (HWS.o.tape h2 h1);clear h1 h2)
   have HE:=ai (HLAST.o _ _ HW1.o);obtain⟨hd,hd1⟩ : ∃h:Hd,h= ⟨some ⟨g8,0,none⟩,c8⟩:=⟨_,rfl⟩;rw [←hd1]at HE;have e1: (some ⟨g8,0,none⟩ :Option Addr) =hd.ao:=by rw [hd1]
   have e2:c8=hd.cap:=by rw [hd1]
   try rw [e1,e2]
   clear e1 e2 hd1;have z0:y.cell? ⟨w.heap.size,0,none⟩ =some (.slice s.th.ao s.tabs.length s.th.cap):=HE.o.ws.bs.cell rfl;have o0:y.cell? ⟨ob,0,none⟩ =some (.int .i64 (q.vars:Nat)):=HE.o.ws.bo.cell rfl;have o1:y.cell? ⟨ob,1,none⟩ =some (.slice hd.ao q.lits.length hd.cap):=HE.o.ws.bo.cell rfl;have o2:y.cell? ⟨ob,2,none⟩ =some (.slice q.head.h.ao q.head.l.length q.head.h.cap):=HE.o.ws.bo.cell rfl;have hol:=HE.o.ws.bo.lt;have hwl:=HE.o.ws.bs.lt;have HRQ:=ai (HE.o.right HNT.o);go_wp2_with (go_at_call 32;refine(rright_yes s ⟨q.vars,hd,q.lits,q.head⟩ (b+1) y (HSI.o _ HE.o.ws.gb) HPS.o HRQ.o).mono ?_;rintro e y9 ⟨rfl,hb9⟩;have HE9:=ai (HE.o.below hb9);clear hb9 z0 o0 o1 o2;have o0:y9.cell? ⟨ob,0,none⟩ =some (.int .i64 (q.vars:Nat)):=HE9.o.ws.bo.cell rfl;have o1:y9.cell? ⟨ob,1,none⟩ =some (.slice hd.ao q.lits.length hd.cap):=HE9.o.ws.bo.cell rfl;have o2:y9.cell? ⟨ob,2,none⟩ =some (.slice q.head.h.ao q.head.l.length q.head.h.cap):=HE9.o.ws.bo.cell rfl;have r0:y9.cell? ⟨w.heap.size+1+1,0,none⟩ =some (.int .i64 0):=HE9.o.ws.br.cell rfl;have r1:y9.cell? ⟨w.heap.size+1+1,1,none⟩ =some (.slice none 0 0):=HE9.o.ws.br.cell rfl;have r2:y9.cell? ⟨w.heap.size+1+1,2,none⟩ =some (.slice none 0 0):=HE9.o.ws.br.cell rfl;have f0:=HE9.o.ws.br.fr 0;have f1:=HE9.o.ws.br.fr 1;have f2:=HE9.o.ws.br.fr 2)
   have HG9:=ai (set3 y9 (w.heap.size+1+1) (.int .i64 (q.vars:Nat)) (.slice hd.ao q.lits.length hd.cap) (.slice q.head.h.ao q.head.l.length q.head.h.cap));refine bodyPost_ret (v:=.agg #[.int .i64 (q.vars:Nat),.slice hd.ao q.lits.length hd.cap,.slice q.head.h.ao q.head.l.length q.head.h.cap]) ?_ ?_ ?_
   case refine_3=>exact⟨⟨q.vars,hd,q.lits,q.head⟩,_,rfl,HE9.o.fin HNT.o HG9.o,tz2 HE9.o.ws.tp HG9.o HE9.o.ws.ll (by omega),⟨by omega,rfl,WkF.refl _⟩,gb_then HE9.o.ws.gb HG9.o (by omega)⟩
   case refine_2=>rfl
   simp [results,Tryz.results11,go_sem,r0,r1,r2]
end Go.Proofs.YtiijaaohphokcaaGreatDoor

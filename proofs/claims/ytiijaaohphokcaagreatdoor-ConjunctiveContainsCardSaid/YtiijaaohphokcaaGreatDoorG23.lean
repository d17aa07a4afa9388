/- ref27.literal of a literal that is right. -/
import Derived.Test.YtiijaaohphokcaaGreatDoorG22
import Derived.Test.YtiijaaohphokcaaGreatDoorG08
set_option maxRecDepth 100000
set_option maxHeartbeats 16000000
namespace Go.Proofs.YtiijaaohphokcaaGreatDoor
open Go.RowKit
structure TX (w:World) (g n:Nat) (f:Nat→Int) (x:World) :Prop where
 bel:Below w.heap.size w x
 at': ∀j,j<n→x.cell? ⟨g,j,none⟩ =some (.int .i64 (f j))
 fr: ∀j,x.frozen? ⟨g,j,none⟩ =false
 lo:w.heap.size≤g
 hi:g<x.heap.size
section
variable {w x y:World} {g n:Nat} {f:Nat→Int}
theorem TX.grown (h:TX w g n f x) (hb:Below x.heap.size x y) :TX w g n f y:=
 ⟨bT h.bel hb,fun j hj=>by rw [hb.cell (p:=⟨g,j,none⟩) h.hi];exact h.at' j hj,fun j=>by simp only [World.frozen?];rw [hb.block g h.hi];exact h.fr j,h.lo,Nat.lt_of_lt_of_le h.hi hb.size⟩
theorem TX.set (h:TX w g n f x) {m:Nat} (hm:m<n) (c:Int) :TX w g n (fun y=>if y=m then c else f y) (x.setCell ⟨g,m,none⟩ (.int .i64 c)):=by
 have hg:=gb_set x g m (.int .i64 c);have hlo:=h.lo;refine⟨h.bel.grown hg h.bel.size (fun j e=>by injection e with e;omega),fun y hy=> ?_,fun j=>by rw [frozen_set];exact h.fr j,h.lo,by simpa using h.hi⟩
 by_cases e:y=m
 ·subst e;rw [if_pos rfl];exact World.cell?_setCell_same _ _ _ (h.at' y hy)
 ·rw [if_neg e,cell_set_ne e];exact h.at' y hy
end
theorem bel_drewN (y:World) (n:Nat) :Below y.heap.size y (y.drewN n):=⟨rfl,rfl,rfl,Nat.le_refl _,fun _ _=>rfl⟩
def RLitPost (w:World) (g:Nat) (q:Cq) (τ:Nat→Int) (k:Nat) (W:World) (e:Ending) (w':World) :Prop:=e = .returned (.bool true)∧W.grownBy w' (some g)∧∃f,TX w g q.vars f w'∧TOk q τ (k+1) 0 f
theorem gb_bel {a b c:World} {r:Option Nat} (h:a.grownBy b r) (k:Below b.heap.size b c) :a.grownBy c r:=h.andThen (only_below k none) (fun j e=>by cases e)
theorem gb_set_at {a b:World} {g:Nat} (h:a.grownBy b (some g)) (j:Nat) (v:Value) :a.grownBy (b.setCell ⟨g,j,none⟩ v) (some g):=h.andThen (gb_set b g j v) (fun _ e=>.inr e)
theorem rlit_yes (s:Sch) (q:Cq) (B:Nat) (w:World) (hs:s.In w) (hp:PSch s) (hq:q.In w B) (τ:Nat→Int) (hr:Right (colT s) q.vars q.cj τ) (k:Nat) (hlt:k<q.lits.length) (l:Li) (hl:q.lits[k] =l) (g:Nat) (f:Nat→Int) (W:World) (hT:TX w g q.vars f W) (hK:TOk q τ k 0 f) :
  Calls Tryz.prog 71 #[.agg #[.slice s.th.ao s.tabs.length s.th.cap],.agg #[.int .i64 (l.tab:Nat),.slice l.sl.h.ao l.sl.l.length l.sl.h.cap],.slice (some ⟨g,0,none⟩) q.vars q.vars] W (RLitPost w g q τ k W):=by
 have HS:=ai hs;have HSL:=ai (show∀W,Below w.heap.size w W→l.sl.In W B from by subst hl;exact fun W hW=>(hq.mono hW).sl _ (List.getElem_mem hlt))
 obtain⟨ht,nm,ch,cols,ph,ht2,hpc,hlen,hsl⟩:=lit_tab (l:=l) hp (by subst hl;exact hr.lit _ (List.mem_map_of_mem (List.getElem_mem hlt)))
 have HKL:=ai (show∀i,¬i<l.sl.l.length→∀f,TOk q τ k i f→TOk q τ (k+1) 0 f from by subst hl;exact fun i hi f h=>h.lit hlt hi)
 have HKC:=ai (show∀i (hi:i<l.sl.l.length) f,TOk q τ k i f→∀c:V,l.sl.l[i] = .c c→TOk q τ k (i+1) f from by subst hl;exact fun i hi f h c hc=>h.con hlt hi hc)
 have HKV:=ai (show∀i (hi:i<l.sl.l.length) f,TOk q τ k i f→∀m:Nat,l.sl.l[i] = .v m→∀c,τ m=c→TOk q τ k (i+1) (fun y=>if y=m then c else f y)from by subst hl;exact fun i hi f h m hm c hc=>h.var hlt hi hm hc)
 have HSK:=ai hsl;have HT:=ai hT;have HK0:=ai hK;have HV16:=ai (show q.vars≤16 from hr.v16)
 clear hs hq hr hT hK hsl hl hlt;have HPC:=ai hpc;have HTI:=ai (fun W (hW:Below w.heap.size w W)=>(HS.o.mono hW).ts _ (List.getElem_mem ht))
 have HTA:=ai (fun W (hW:Below w.heap.size w W)=>tab_at (HS.o.mono hW).rt ht)
 rw [ht2]at HTA HTI;have HIT:=ai (fun W (hW:Below w.heap.size w W)=>And.intro ((HS.o.mono hW).rt.ix ht Tryz.underlying25 sz22) ((HS.o.mono hW).rt.blk ht))
 have hti: ¬(s.tabs.length:Int)≤(l.tab:Int):=by omega
 have htn: ¬(l.tab:Int) <0:=by omega
 have hle: ((l.sl.l.length:Int) != (cols.length:Int)) =false:=by rw [hlen];exact bne_self_eq_false _
 have HLE:=ai hlen;obtain⟨X,hX⟩ : ∃X,(W.alloc (.cells #[.slice s.th.ao s.tabs.length s.th.cap] 27)).alloc (.cells #[.int .i64 (l.tab:Nat),.slice l.sl.h.ao l.sl.l.length l.sl.h.cap] 56) =X:=⟨_,rfl⟩;have HWX:=ai (show Below W.heap.size W X from by rw [←hX];exact belAA _ _)
 have HBS:=ai (show Box X W.heap.size #[.slice s.th.ao s.tabs.length s.th.cap] 27 from by rw [←hX];exact(Box.new _ _ _).below (belA _))
 have HBL:=ai (show Box X (W.heap.size+1) #[.int .i64 (l.tab:Nat),.slice l.sl.h.ao l.sl.l.length l.sl.h.cap] 56 from by
  rw [←hX];have h:=Box.new (W.alloc (.cells #[.slice s.th.ao s.tabs.length s.th.cap] 27)) #[.int .i64 (l.tab:Nat),.slice l.sl.h.ao l.sl.l.length l.sl.h.cap] 56
  rwa [World.size_alloc]at h)
 have HTX:=ai (HT.o.grown HWX.o);clear ht ht2 hlen
 go_enter Tryz.func71,Tryz.ntmps71;go_upto_region 1 with fail
 try rw [hX]
 clear hX;have y0: ∀w',Below X.heap.size X w'→w'.cell? ⟨W.heap.size,0,none⟩ =some (.slice s.th.ao s.tabs.length s.th.cap):=fun w' h=>(HBS.o.below h).cell rfl
 have y1: ∀w',Below X.heap.size X w'→w'.cell? ⟨W.heap.size+1,0,none⟩ =some (.int .i64 (l.tab:Nat)):=fun w' h=>(HBL.o.below h).cell rfl
 have y2: ∀w',Below X.heap.size X w'→w'.cell? ⟨W.heap.size+1,1,none⟩ =some (.slice l.sl.h.ao l.sl.l.length l.sl.h.cap):=fun w' h=>(HBL.o.below h).cell rfl
 have y3: ∀w',Below X.heap.size X w'→w'.cell? ⟨s.th.b,s.th.o+l.tab*6,none⟩ =some (.string nm):=fun w' h=>(HTA.o w' (HTX.o.grown h).bel).1
 have y4: ∀w',Below X.heap.size X w'→w'.cell? ⟨s.th.b,s.th.o+l.tab*6+1,none⟩ =some (.slice ch.ao cols.length ch.cap):=fun w' h=>(HTA.o w' (HTX.o.grown h).bel).2.1
 have y5: ∀w',Below X.heap.size X w'→w'.cell? ⟨s.th.b,s.th.o+l.tab*6+2,none⟩ =some (.slice ph.ao 1 ph.cap):=fun w' h=>(HTA.o w' (HTX.o.grown h).bel).2.2.1
 have y6: ∀w',Below X.heap.size X w'→w'.cell? ⟨s.th.b,s.th.o+l.tab*6+3,none⟩ =some (.slice none 0 0):=fun w' h=>(HTA.o w' (HTX.o.grown h).bel).2.2.2.1
 have y7: ∀w',Below X.heap.size X w'→w'.cell? ⟨s.th.b,s.th.o+l.tab*6+4,none⟩ =some (.slice none 0 0):=fun w' h=>(HTA.o w' (HTX.o.grown h).bel).2.2.2.2.1
 have y8: ∀w',Below X.heap.size X w'→w'.cell? ⟨s.th.b,s.th.o+l.tab*6+5,none⟩ =some (.slice none 0 0):=fun w' h=>(HTA.o w' (HTX.o.grown h).bel).2.2.2.2.2
 have hix:=(HIT.o X HTX.o.bel).1;have hstb:=(HIT.o X HTX.o.bel).2;have HPL:=ai (fun V (hV:Below X.heap.size X V)=>rplain_yes nm ch cols ph V (HTI.o V (HTX.o.grown hV).bel) HPC.o)
 go_region_held3 (fun w'=>Below X.heap.size X w') ((first|exact(Below.refl _ _).drew|exact bT (by assumption) (by assumption))) (first| (go_at_call 118;refine(HPL.o _ (by assumption)).mono ?_;rintro e x ⟨rfl,hb⟩))
 have hHx:Below X.heap.size X x:=by assumption
 have HGB:=ai (only_below (bT HWX.o hHx) (some g));have HTX2:=ai (HTX.o.grown hHx);have HBL2:=ai (HBL.o.below hHx);have HGL:=ai (show g<W.heap.size from HT.o.hi)
 have HS0:=ai (HBS.o.below hHx);clear y0 y1 y2 y3 y4 y5 y6 y7 y8 hix hstb hb hHx HTX HBL HBS HPL HWX;have y0:x.cell? ⟨W.heap.size,0,none⟩ =some (.slice s.th.ao s.tabs.length s.th.cap):=HS0.o.cell rfl;have y1:x.cell? ⟨W.heap.size+1,0,none⟩ =some (.int .i64 (l.tab:Nat)):=HBL2.o.cell rfl;have y4:=(HTA.o x HTX2.o.bel).2.1;have hix:=(HIT.o x HTX2.o.bel).1;have hstb:=(HIT.o x HTX2.o.bel).2;have hcn:=(HTI.o x HTX2.o.bel).rc.len;go_wp2;clear y0 y1 y4 hix hstb hti htn hle;go_loopw [53] (fun i wr=>∃m:Nat,m≤cols.length∧i = .int .i64 m∧∃f:Nat→Int,Hid (TX w g q.vars f wr)∧Hid (TOk q τ k m f)∧Hid (Box wr (W.heap.size+1) #[.int .i64 (l.tab:Nat),.slice l.sl.h.ao l.sl.l.length l.sl.h.cap] 56)∧Hid (W.grownBy wr (some g))) (fun i _=>cols.length - (intOf i).toNat)
 case atStart=>exact⟨0,Nat.zero_le _,rfl,f,HTX2.o,HK0.o,HBL2.o,HGB.o⟩
 clear HTX2 HK0 HBL2 HGB HS0 HT
 case round=>
  obtain⟨m,hm,rfl,f,HT,HK,HL,HGB⟩:=hrel;have HWB:=ai (show W.heap.size+1<wr.heap.size from HL.o.lt)
  by_cases hlc:m<cols.length
  ·have hlm:m<l.sl.l.length:=by rw [HLE.o];exact hlc
   have hlmi: (m:Int) <l.sl.l.length:=by omega
   have hrc:=(HTI.o _ HT.o.bel).rc;have hixc:=hrc.ix hlc Tryz.underlying73 sz30;obtain⟨d0,d1,d2⟩:=col_at hrc hlc;have hbc:=hrc.blk hlc;have hrs:=(HSL.o _ HT.o.bel).row;have HWF:=ai ((HSL.o _ HT.o.bel).wf _ (List.getElem_mem hlm));have hix:=hrs.ix hlm Tryz.underlying30 szslot;obtain⟨c0,c1,c2,c3⟩:=tm_at hrs hlm;have hbk:=hrs.blk hlm;have hsn:=hrs.len;have HSO:=ai (HSK.o m hlm hlc);have HK1:=ai (HKC.o m hlm f HK.o);have HK2:=ai (HKV.o m hlm f HK.o);have HTY:=ai (HPC.o.ty _ (List.getElem_mem hlc));obtain⟨t,ht⟩ : ∃t,l.sl.l[m] =t:=⟨_,rfl⟩;obtain⟨cl,hcl⟩ : ∃c,cols[m] =c:=⟨_,rfl⟩;rw [ht]at c0 c1 c2 c3 HWF HSO HK1 HK2;rw [hcl]at d0 d1 d2 HSO HTY;have HV:=ai (fun U=>rslot_yes q.vars t U HWF.o (by
    cases t with
    | v n=>exact HSO.o.1
    | c kk=>exact⟨HSO.o.1.1,by have h1:kk.kind=cl.typ:=HSO.o.2;have h2:=HTY.o;omega⟩))
   have HFX:=ai (fun U=>rfixed_any t U)
   clear ht hcl hrs hrc;have HLC:=ai hlc;obtain⟨V,hV⟩ : ∃V,(wr.alloc (.cells #[.string cl.name,.int .i64 cl.typ,.bool cl.nul] 72)).alloc (.cells #[.int .i64 t.nr,.int .i64 t.val.kind,.int .i64 t.val.num,.string t.val.text] 83) =V:=⟨_,rfl⟩;have HVB:=ai (show Below wr.heap.size wr V from by rw [←hV];exact belAA _ _)
   have HBC:=ai (show Box V wr.heap.size #[.string cl.name,.int .i64 cl.typ,.bool cl.nul] 72 from by rw [←hV];exact(Box.new _ _ _).below (belA _))
   have HBT:=ai (show Box V (wr.heap.size+1) #[.int .i64 t.nr,.int .i64 t.val.kind,.int .i64 t.val.num,.string t.val.text] 83 from by
    rw [←hV];have h:=Box.new (wr.alloc (.cells #[.string cl.name,.int .i64 cl.typ,.bool cl.nul] 72)) #[.int .i64 t.nr,.int .i64 t.val.kind,.int .i64 t.val.num,.string t.val.text] 83
    rwa [World.size_alloc]at h)
   have HTV:=ai (HT.o.grown HVB.o);have HLV:=ai (HL.o.below HVB.o);have HGV:=ai (gb_bel HGB.o HVB.o);have x1:wr.cell? ⟨W.heap.size+1,1,none⟩ =some (.slice l.sl.h.ao l.sl.l.length l.sl.h.cap):=HL.o.cell rfl;have hwb:=HWB.o;go_upto_region 7 with fail
   try rw [hV]
   clear hV hix hixc c0 c1 c2 c3 d0 d1 d2 hbk hbc x1 hsn
   cases t with
   | c kk=>
    have hkb: (kk.kind != cl.typ) =false:=by rw [show kk.kind=cl.typ from HSO.o.2];exact bne_self_eq_false _
    have HK3:=ai (HK1.o kk rfl);clear HK1 HK2;simp only [Tm.nr,Tm.val,Tm.isC]at *;have x0:V.cell? ⟨wr.heap.size+1,0,none⟩ =some (.int .i64 (-1)):=HBT.o.cell rfl;have x1:V.cell? ⟨wr.heap.size+1,1,none⟩ =some (.int .i64 kk.kind):=HBT.o.cell rfl;have x2:V.cell? ⟨wr.heap.size+1,2,none⟩ =some (.int .i64 kk.num):=HBT.o.cell rfl;have x3:V.cell? ⟨wr.heap.size+1,3,none⟩ =some (.string kk.text):=HBT.o.cell rfl;go_wp2_with (first
     | (go_at_call 72;refine(HV.o _).mono ?_;rintro e y ⟨rfl,hb⟩;have HY:=ai hb;clear hb x0 x1 x2 x3;have x0:y.cell? ⟨wr.heap.size+1,0,none⟩ =some (.int .i64 (-1)):=(HBT.o.below HY.o).cell rfl;have x1:y.cell? ⟨wr.heap.size+1,1,none⟩ =some (.int .i64 kk.kind):=(HBT.o.below HY.o).cell rfl;have x2:y.cell? ⟨wr.heap.size+1,2,none⟩ =some (.int .i64 kk.num):=(HBT.o.below HY.o).cell rfl;have x3:y.cell? ⟨wr.heap.size+1,3,none⟩ =some (.string kk.text):=(HBT.o.below HY.o).cell rfl)
     | (go_at_call 73;refine(HFX.o _).mono ?_;rintro e y2 ⟨rfl,hb2⟩;have HY2:=ai (bT HY.o hb2);clear hb2 x0 x1 x2 x3;have x0:y2.cell? ⟨wr.heap.size+1,0,none⟩ =some (.int .i64 (-1)):=(HBT.o.below HY2.o).cell rfl;have x1:y2.cell? ⟨wr.heap.size+1,1,none⟩ =some (.int .i64 kk.kind):=(HBT.o.below HY2.o).cell rfl;have x2:y2.cell? ⟨wr.heap.size+1,2,none⟩ =some (.int .i64 kk.num):=(HBT.o.below HY2.o).cell rfl;have x3:y2.cell? ⟨wr.heap.size+1,3,none⟩ =some (.string kk.text):=(HBT.o.below HY2.o).cell rfl;have z1:y2.cell? ⟨wr.heap.size,1,none⟩ =some (.int .i64 cl.typ):=(HBC.o.below HY2.o).cell rfl)
     | (go_at_call 73;refine(HFX.o _).mono ?_;rintro e y3 ⟨rfl,hb3⟩;have HY3:=ai (bT HY2.o hb3);clear hb3))
    exact⟨⟨m+1,HLC.o,rfl,f,HTV.o.grown HY3.o,HK3.o,HLV.o.below HY3.o,gb_bel HGV.o HY3.o⟩,by have:=HLC.o;simp [intOf];omega⟩
   | v n=>
    have hn:n<q.vars:=HSO.o.1;have HK3:=ai (HK2.o n rfl cl.typ HSO.o.2);have HF0:=ai (HK.o n hn).1;have HTN:=ai (show τ n=cl.typ from HSO.o.2)
    clear HK1 HK2;simp only [Tm.nr,Tm.val,nulV,Tm.isC]at *;have hixg:=index_ptr (P:=Tryz.prog) Tryz.underlying22 szil g q.vars q.vars n hn
    have x0:V.cell? ⟨wr.heap.size+1,0,none⟩ =some (.int .i64 (n:Nat)):=HBT.o.cell rfl;have x1:V.cell? ⟨wr.heap.size+1,1,none⟩ =some (.int .i64 0):=HBT.o.cell rfl;have x2:V.cell? ⟨wr.heap.size+1,2,none⟩ =some (.int .i64 0):=HBT.o.cell rfl;have x3:V.cell? ⟨wr.heap.size+1,3,none⟩ =some (.string ⟨#[]⟩):=HBT.o.cell rfl;go_upto_region 10 with(first
     | (go_at_call 72;refine(HV.o _).mono ?_;rintro e y ⟨rfl,hb⟩;have HY:=ai hb;clear hb x0 x1 x2 x3;have x0:y.cell? ⟨wr.heap.size+1,0,none⟩ =some (.int .i64 (n:Nat)):=(HBT.o.below HY.o).cell rfl;have x1:y.cell? ⟨wr.heap.size+1,1,none⟩ =some (.int .i64 0):=(HBT.o.below HY.o).cell rfl;have x2:y.cell? ⟨wr.heap.size+1,2,none⟩ =some (.int .i64 0):=(HBT.o.below HY.o).cell rfl;have x3:y.cell? ⟨wr.heap.size+1,3,none⟩ =some (.string ⟨#[]⟩):=(HBT.o.below HY.o).cell rfl)
     | (go_at_call 73;refine(HFX.o _).mono ?_;rintro e y2 ⟨rfl,hb2⟩;have HY2:=ai (bT HY.o hb2);clear hb2 x0 x1 x2 x3;have x0:y2.cell? ⟨wr.heap.size+1,0,none⟩ =some (.int .i64 (n:Nat)):=(HBT.o.below HY2.o).cell rfl;have x1:y2.cell? ⟨wr.heap.size+1,1,none⟩ =some (.int .i64 0):=(HBT.o.below HY2.o).cell rfl;have x2:y2.cell? ⟨wr.heap.size+1,2,none⟩ =some (.int .i64 0):=(HBT.o.below HY2.o).cell rfl;have x3:y2.cell? ⟨wr.heap.size+1,3,none⟩ =some (.string ⟨#[]⟩):=(HBT.o.below HY2.o).cell rfl)
     | (go_at_call 73;refine(HFX.o _).mono ?_;rintro e y3 ⟨rfl,hb3⟩;have HY3:=ai (bT HY2.o hb3);clear hb3;clear x0 x1 x2 x3))
    have HT3:=ai (HTV.o.grown HY3.o);have HL3:=ai (HLV.o.below HY3.o);have HG3:=ai (gb_bel HGV.o HY3.o);have x0:y3.cell? ⟨wr.heap.size+1,0,none⟩ =some (.int .i64 (n:Nat)):=(HBT.o.below HY3.o).cell rfl;have z1:y3.cell? ⟨wr.heap.size,1,none⟩ =some (.int .i64 cl.typ):=(HBC.o.below HY3.o).cell rfl;have z0:=HT3.o.at' n hn;have f0:=HT3.o.fr n;have hfn: ((f n != 0) =false)∨((f n != 0) =true∧(f n != cl.typ) =false):=by
     rcases HF0.o with h|h
     ·left;rw [h];rfl
     ·right
      rw [h,HTN.o];have h2:=HTY.o;exact⟨bne_iff_ne.2 (by omega),bne_self_eq_false _⟩
    clear HV HFX HY HY2 HTV HLV HGV HBC HBT HVB;rcases hfn with hfn| ⟨hfn,hfm⟩
    all_goals
     go_quiet (fail)
     go_wp2;go_roundw
     case rel=>exact⟨m+1,HLC.o,by go_num,_,(HT3.o.grown (bel_drewN _ _)).set hn cl.typ,HK3.o,(HL3.o.below (bel_drewN _ _)).grown (gb_set _ _ _ _) (by have h1:=HGL.o;intro e;injection e with e;omega),gb_set_at (gb_bel HG3.o (bel_drewN _ _)) _ _⟩
     case measure=>have:=HLC.o;simp [intOf];omega
  ·obtain rfl:m=cols.length:=by omega
   have HK3:=ai (HKL.o cols.length (by rw [HLE.o];omega) f HK.o)
   go_wp2;go_ret
   exact⟨rfl,HGB.o,f,HT.o,HK3.o⟩
end Go.Proofs.YtiijaaohphokcaaGreatDoor
/- ref27.Valid of a query that is right. -/
namespace Go.Proofs.YtiijaaohphokcaaGreatDoor
open Go.RowKit
structure TV (w:World) (s:Sch) (q:Cq) (g:Nat) (f:Nat→Int) (x:World) :Prop where
 tx:TX w g q.vars f x
 bs:Box x w.heap.size #[.slice s.th.ao s.tabs.length s.th.cap] 27
 bq:Box x (w.heap.size+1) (qcells q) 32
 lo:w.heap.size+2≤g
theorem TV.grown {w:World} {s:Sch} {q:Cq} {g:Nat} {f:Nat→Int} {x y:World} (h:TV w s q g f x) (hb:Below x.heap.size x y) :TV w s q g f y:=⟨h.tx.grown hb,h.bs.below hb,h.bq.below hb,h.lo⟩
theorem TV.turn {w:World} {s:Sch} {q:Cq} {g:Nat} {f f':Nat→Int} {x y:World} (h:TV w s q g f x) (hg:x.grownBy y (some g)) (ht:TX w g q.vars f' y) :TV w s q g f' y:=by
 have:=h.lo;exact⟨ht,h.bs.grown hg (by intro e;injection e with e;omega),h.bq.grown hg (by intro e;injection e with e;omega),h.lo⟩
theorem rright_yes (s:Sch) (q:Cq) (B:Nat) (w:World) (hs:s.In w) (hp:PSch s) (rq:RightQ w (colT s) q B) :
  Calls Tryz.prog 32 #[.agg #[.slice s.th.ao s.tabs.length s.th.cap],.agg #[.int .i64 (q.vars:Nat),.slice q.lh.ao q.lits.length q.lh.cap,.slice q.head.h.ao q.head.l.length q.head.h.cap]] w fun e w'=>e = .returned (.int .i64 0)∧Below w.heap.size w w':=by
 obtain⟨τ,hr⟩:=rq.ri;have HP:=ai hp;have HR:=ai hr;have HQ:=ai rq.qi;have HS:=ai hs;obtain⟨X,hX⟩ : ∃X,(w.alloc (.cells #[.slice s.th.ao s.tabs.length s.th.cap] 27)).alloc (.cells #[.int .i64 (q.vars:Nat),.slice q.lh.ao q.lits.length q.lh.cap,.slice q.head.h.ao q.head.l.length q.head.h.cap] 32) =X:=⟨_,rfl⟩;have HBX:=ai (show Below w.heap.size w X from by rw [←hX];exact belAA _ _)
 have HBS:=ai (show Box X w.heap.size #[.slice s.th.ao s.tabs.length s.th.cap] 27 from by rw [←hX];exact(Box.new _ _ _).below (belA _))
 have HBQ:=ai (show Box X (w.heap.size+1) (qcells q) 32 from by
  rw [←hX];have h:=Box.new (w.alloc (.cells #[.slice s.th.ao s.tabs.length s.th.cap] 27)) #[.int .i64 (q.vars:Nat),.slice q.lh.ao q.lits.length q.lh.cap,.slice q.head.h.ao q.head.l.length q.head.h.cap] 32
  rwa [World.size_alloc]at h)
 have HVS:=ai (rvalid_plain s X (hs.mono HBX.o) hp);have s0:X.cell? ⟨w.heap.size,0,none⟩ =some (.slice s.th.ao s.tabs.length s.th.cap):=HBS.o.cell rfl;have hll:q.lits.length≤8:=by have h:=hr.n8;rwa [show q.cj.lits.length=q.lits.length from List.length_map _]at h
 have hlp:0<q.lits.length:=by have h:=hr.n1;rwa [show q.cj.lits.length=q.lits.length from List.length_map _]at h
 have e1: ¬(q.lits.length:Int) <1:=by omega
 have e2: ¬(8:Int) <q.lits.length:=by omega
 have e3: ¬(q.vars:Int) <0:=by omega
 have e4: ¬(16:Int) <q.vars:=by have:=hr.v16;omega
 have e5: ¬(q.head.l.length:Int) <1:=by have h:0<q.head.l.length:=hr.h1;omega
 have e6: ¬(24:Int) <q.head.l.length:=by have h:q.head.l.length≤24:=hr.h24;omega
 have hv16:q.vars≤16:=hr.v16;obtain⟨bi,hbi,hbz,hbs,hbb⟩:=info_parts bi_int;clear hs hp rq hr
 go_enter Tryz.func32,Tryz.ntmps32;go_upto_region 1 with fail
 try rw [hX]
 clear hX;go_wp2_with (first
  | (go_at_call 70;refine HVS.o.mono ?_;rintro e Z ⟨rfl,hz⟩;have HZ:=ai (bT HBX.o hz);have HZS:=ai (HBS.o.below hz);have HZQ:=ai (HBQ.o.below hz);have HXZ:=ai hz;clear hz s0;have q0:Z.cell? ⟨w.heap.size+1,0,none⟩ =some (.int .i64 (q.vars:Nat)):=HZQ.o.cell rfl;have q1:Z.cell? ⟨w.heap.size+1,1,none⟩ =some (.slice q.lh.ao q.lits.length q.lh.cap):=HZQ.o.cell rfl;have q2:Z.cell? ⟨w.heap.size+1,2,none⟩ =some (.slice q.head.h.ao q.head.l.length q.head.h.cap):=HZQ.o.cell rfl)
  | (at_make;refine wpList_make_full _ rfl _ _ 22 rfl Z.heap.size 3 bi (.int .i64 0) 1 Tryz.underlying22 hbi hbz hbs _ _ _ _ q.vars rfl rfl rfl rfl (by rw [hbb];omega) (by unfold maxLen;omega) (Nat.le_refl _) ?_;intro Y hown hgrow;have HT0:=ai (show TV w s q Z.heap.size (fun _=>0) Y from(by
    have h:=tw_start HZ.o HZS.o HZQ.o hgrow hown;exact⟨⟨h.bel,h.at',h.fr,by have:=h.lo;omega,h.hi⟩,h.bs,h.bq,h.lo⟩));clear hown hgrow q0 q1 q2;have q1:Y.cell? ⟨w.heap.size+1,1,none⟩ =some (.slice q.lh.ao q.lits.length q.lh.cap):=HT0.o.bq.cell rfl))
 clear q1 e1 e2 e3 e4 e5 e6 hll hlp hbi hbz hbs hbb;generalize Z.heap.size=g at *;go_loopw [56] (fun i wr=>∃k:Nat,k≤q.lits.length∧i = .int .i64 k∧∃f:Nat→Int,Hid (TV w s q g f wr)∧Hid (TOk q τ k 0 f)) (fun i _=>q.lits.length - (intOf i).toNat)
 case atStart=>exact⟨0,Nat.zero_le _,rfl,_,HT0.o,TOk.zero⟩
 clear HT0 HVS
 case round=>
  obtain⟨k,hk,rfl,f,HT,HK⟩:=hrel;by_cases hlt:k<q.lits.length
  ·have hrl:=(HQ.o.mono HT.o.tx.bel).row
   have hix:=hrl.ix hlt Tryz.underlying29 szlit;obtain⟨c0,c1⟩:=li_at hrl hlt;have hbk:=hrl.blk hlt;have hln:=hrl.len;obtain⟨l,hl⟩ : ∃l,q.lits[k] =l:=⟨_,rfl⟩;have HLI:=ai (fun(V:World) (f:Nat→Int) (hT:TX w g q.vars f V) (hK:TOk q τ k 0 f)=>rlit_yes s q B w HS.o HP.o HQ.o τ HR.o k hlt l hl g f V hT hK)
   rw [hl]at c0 c1;clear hl hrl;have HLT:=ai hlt;obtain⟨V,hV⟩ : ∃V,wr.alloc (.cells #[.int .i64 (l.tab:Nat),.slice l.sl.h.ao l.sl.l.length l.sl.h.cap] 56) =V:=⟨_,rfl⟩;have HBL:=ai (box1X hV).1;have HTV:=ai (HT.o.grown (box1X hV).2);have x0:V.cell? ⟨wr.heap.size,0,none⟩ =some (.int .i64 (l.tab:Nat)):=HBL.o.cell rfl;have x1:V.cell? ⟨wr.heap.size,1,none⟩ =some (.slice l.sl.h.ao l.sl.l.length l.sl.h.cap):=HBL.o.cell rfl;have x2:V.cell? ⟨w.heap.size,0,none⟩ =some (.slice s.th.ao s.tabs.length s.th.cap):=HTV.o.bs.cell rfl;go_upto_region 10 with fail
   try rw [hV]
   clear hV c0 c1 hix hbk;go_wp2_with (go_at_call 71;refine(HLI.o V f HTV.o.tx HK.o).mono ?_;rintro e V2 ⟨rfl,hg,f2,hT2,hK2⟩;have HT2:=ai (HTV.o.turn hg hT2);have HK2:=ai hK2;clear hg hT2 hK2 x0 x1 x2)
   go_roundw
   case rel=>exact⟨k+1,HLT.o,by go_num,f2,HT2.o,HK2.o⟩
   case measure=>have:=HLT.o;simp [intOf];omega
  ·obtain rfl:k=q.lits.length:=by omega
   have HFN:=ai (show∀j,j<q.vars→f j≠0 from fun j hj=>by
    rw [HK.o.last hj (HR.o.occ j hj)];have:=τ_pos HP.o HR.o hj;omega)
   have q2:wr.cell? ⟨w.heap.size+1,2,none⟩ =some (.slice q.head.h.ao q.head.l.length q.head.h.cap):=HT.o.bq.cell rfl;have hhn:=(HQ.o.mono HT.o.tx.bel).hd.row.len;go_wp2;clear q2 HK;go_loopw [69] (fun i wr=>∃k:Nat,k≤q.head.l.length∧i = .int .i64 k∧Hid (TV w s q g f wr)) (fun i _=>q.head.l.length - (intOf i).toNat)
   case atStart=>exact⟨0,Nat.zero_le _,rfl,HT.o⟩
   clear HT
   case round=>
    obtain⟨k,hk,rfl,HT⟩:=hrel;by_cases hlt:k<q.head.l.length
    ·have hq2:=HQ.o.mono HT.o.tx.bel
     have hrh:=hq2.hd.row;have hix:=hrh.ix hlt Tryz.underlying30 szslot;obtain⟨c0,c1,c2,c3⟩:=tm_at hrh hlt;have hbk:=hrh.blk hlt;have HWF:=ai (hq2.hd.wf _ (List.getElem_mem hlt));have HHD:=ai (show HeadOk q.vars q.head.l[k]from HR.o.hd _ (List.getElem_mem hlt))
     obtain⟨t,ht⟩ : ∃t,q.head.l[k] =t:=⟨_,rfl⟩;rw [ht]at HHD;rw [ht]at c0 c1 c2 c3 HWF;have HVV:=ai (fun U=>rslot_yes q.vars t U HWF.o (by
      have h:=HHD.o
      cases t with
      | v n=>exact h
      | c kk=>exact⟨h.1.1,h.2.1⟩))
     have HFX:=ai (fun U=>rfixed_any t U)
     clear ht hrh hq2;have HLT:=ai hlt;obtain⟨V,hV⟩ : ∃V,wr.alloc (.cells #[.int .i64 t.nr,.int .i64 t.val.kind,.int .i64 t.val.num,.string t.val.text] 83) =V:=⟨_,rfl⟩;have HBT:=ai (box1X hV).1;have HTV:=ai (HT.o.grown (box1X hV).2);go_upto_region 16 with fail
     try rw [hV]
     clear hV c0 c1 c2 c3 hix hbk;have v0:V.cell? ⟨w.heap.size+1,0,none⟩ =some (.int .i64 (q.vars:Nat)):=HTV.o.bq.cell rfl
     cases t with
     | c kk=>
      have hk2: (kk.kind == 2) =false:=beq_eq_false_iff_ne.2 HHD.o.2.2;simp only [Tm.nr,Tm.val,Tm.isC]at *;have x0:V.cell? ⟨wr.heap.size,0,none⟩ =some (.int .i64 (-1)):=HBT.o.cell rfl;have x1:V.cell? ⟨wr.heap.size,1,none⟩ =some (.int .i64 kk.kind):=HBT.o.cell rfl;have x2:V.cell? ⟨wr.heap.size,2,none⟩ =some (.int .i64 kk.num):=HBT.o.cell rfl;have x3:V.cell? ⟨wr.heap.size,3,none⟩ =some (.string kk.text):=HBT.o.cell rfl;go_wp2_with (first
       | (go_at_call 72;refine(HVV.o _).mono ?_;rintro e y ⟨rfl,hb⟩;have HY:=ai hb;clear hb x0 x1 x2 x3;have x0:y.cell? ⟨wr.heap.size,0,none⟩ =some (.int .i64 (-1)):=(HBT.o.below HY.o).cell rfl;have x1:y.cell? ⟨wr.heap.size,1,none⟩ =some (.int .i64 kk.kind):=(HBT.o.below HY.o).cell rfl;have x2:y.cell? ⟨wr.heap.size,2,none⟩ =some (.int .i64 kk.num):=(HBT.o.below HY.o).cell rfl;have x3:y.cell? ⟨wr.heap.size,3,none⟩ =some (.string kk.text):=(HBT.o.below HY.o).cell rfl)
       | (go_at_call 73;refine(HFX.o _).mono ?_;rintro e y2 ⟨rfl,hb2⟩;have HY2:=ai (bT HY.o hb2);clear hb2 x0 x1 x2 x3;have x0:y2.cell? ⟨wr.heap.size,0,none⟩ =some (.int .i64 (-1)):=(HBT.o.below HY2.o).cell rfl;have x1:y2.cell? ⟨wr.heap.size,1,none⟩ =some (.int .i64 kk.kind):=(HBT.o.below HY2.o).cell rfl;have x2:y2.cell? ⟨wr.heap.size,2,none⟩ =some (.int .i64 kk.num):=(HBT.o.below HY2.o).cell rfl;have x3:y2.cell? ⟨wr.heap.size,3,none⟩ =some (.string kk.text):=(HBT.o.below HY2.o).cell rfl))
      go_roundw
      case rel=>exact⟨k+1,HLT.o,by go_num,HTV.o.grown HY2.o⟩
      case measure=>have:=HLT.o;simp [intOf];omega
     | v n=>
      simp only [Tm.nr,Tm.val,nulV,Tm.isC]at *;have x0:V.cell? ⟨wr.heap.size,0,none⟩ =some (.int .i64 (n:Nat)):=HBT.o.cell rfl;have x1:V.cell? ⟨wr.heap.size,1,none⟩ =some (.int .i64 0):=HBT.o.cell rfl;have x2:V.cell? ⟨wr.heap.size,2,none⟩ =some (.int .i64 0):=HBT.o.cell rfl;have x3:V.cell? ⟨wr.heap.size,3,none⟩ =some (.string ⟨#[]⟩):=HBT.o.cell rfl;go_wp2_with (first
       | (go_at_call 72;refine(HVV.o _).mono ?_;rintro e y ⟨rfl,hb⟩;have HY:=ai hb;clear hb x0 x1 x2 x3;have x0:y.cell? ⟨wr.heap.size,0,none⟩ =some (.int .i64 (n:Nat)):=(HBT.o.below HY.o).cell rfl;have x1:y.cell? ⟨wr.heap.size,1,none⟩ =some (.int .i64 0):=(HBT.o.below HY.o).cell rfl;have x2:y.cell? ⟨wr.heap.size,2,none⟩ =some (.int .i64 0):=(HBT.o.below HY.o).cell rfl;have x3:y.cell? ⟨wr.heap.size,3,none⟩ =some (.string ⟨#[]⟩):=(HBT.o.below HY.o).cell rfl)
       | (go_at_call 73;refine(HFX.o _).mono ?_;rintro e y2 ⟨rfl,hb2⟩;have HY2:=ai (bT HY.o hb2);clear hb2 x0 x1 x2 x3))
      go_roundw
      case rel=>exact⟨k+1,HLT.o,by go_num,HTV.o.grown HY2.o⟩
      case measure=>have:=HLT.o;simp [intOf];omega
    ·go_wp2
     go_loopw [91] (fun i wr=>∃k:Nat,k≤q.vars∧i = .int .i64 k∧Hid (TV w s q g f wr)) (fun i _=>q.vars - (intOf i).toNat)
     case atStart=>exact⟨0,Nat.zero_le _,rfl,HT.o⟩
     clear HT
     case round=>
      obtain⟨k,hk,rfl,HT⟩:=hrel;by_cases hlt:k<q.vars
      ·have hixg:=index_ptr (P:=Tryz.prog) Tryz.underlying22 szil g q.vars q.vars k hlt
       have z0:=HT.o.tx.at' k hlt;have hg:=HT.o.tx.hi;have hne: (f k == 0) =false:=beq_eq_false_iff_ne.2 (HFN.o k hlt);have HLT:=ai hlt;go_wp2;go_roundw
       case rel=>exact⟨k+1,HLT.o,by go_num,HT.o⟩
       case measure=>have:=HLT.o;simp [intOf];omega
      ·go_wp2
       go_ret
       exact⟨rfl,HT.o.tx.bel⟩
end Go.Proofs.YtiijaaohphokcaaGreatDoor
/- querylabfield.Int, Text, Value (of an integer or a text, not null). -/
namespace Go.Proofs.YtiijaaohphokcaaGreatDoor
open Go.RowKit
theorem row_box {α:Type} {w:World} {b size:Nat} {T:TypeId} {cells:α→List Value} {xs:List α} (hs: ∀x,(cells x).length=size) (h:Box w b (xs.flatMap cells).toArray T) (hl:xs.length≤maxLen) :Row w size cells ⟨some ⟨b,0,none⟩,xs.length⟩ xs:=by
 refine⟨Nat.le_refl _,hl,fun _=>⟨rfl,h.lt⟩,fun i hi j v hv=> ?_⟩
 have hj:j<size:=by
  have:=(List.getElem?_eq_some_iff.1 hv).1
  rwa [hs]at this
 have:=h.cell (j:=i*size+j) (v:=v) (by rw [List.getElem?_toArray,flatMap_at hs xs i j hi hj];exact hv)
 show w.cell? ⟨b,0+i*size+j,none⟩ =some v
 rw [Nat.zero_add];exact this
theorem il_box {w:World} {b:Nat} {T:TypeId} {xs:List Int} (h:Box w b (xs.flatMap icells).toArray T) (hl:xs.length≤1000) (hw: ∀n∈xs,int64 n) :IL.In w ⟨⟨some ⟨b,0,none⟩,xs.length⟩,xs⟩:=⟨row_box (fun _=>rfl) h (by unfold maxLen;omega),hw⟩
theorem fint_any (n:Int) (w:World) :Calls Tryz.prog 41 #[.int .i64 n] w fun e w'=>e = .returned (.agg #[.int .i64 1,.int .i64 n,.string ⟨#[]⟩])∧Below w.heap.size w w':=by
 go_enter Tryz.func41,Tryz.ntmps41;go_wp2;exact bodyPost_ret (v:=.agg #[.int .i64 1,.int .i64 n,.string ⟨#[]⟩]) (by simp [results,Tryz.results41,go_sem]) rfl ⟨rfl,belA _⟩
theorem ftxt_any (s:ByteArray) (w:World) :Calls Tryz.prog 53 #[.string s] w fun e w'=>e = .returned (.agg #[.int .i64 3,.int .i64 0,.string s])∧Below w.heap.size w w':=by
 go_enter Tryz.func53,Tryz.ntmps53;go_wp2;exact bodyPost_ret (v:=.agg #[.int .i64 3,.int .i64 0,.string s]) (by simp [results,Tryz.results53,go_sem]) rfl ⟨rfl,belA _⟩
theorem tz2 {w w':World} {b a B c:Nat} {L:IL} (h:TapeIn w b L a) (hg:w.grownBy w' (some c)) (hB:b<B∧(0<L.l.length→L.h.b<B)) (hc:B≤c) :TapeIn w' b L a:=
 ⟨by rw [World.cell?_of_block (hg.block b h.lt (by simp;omega))];exact h.lst,by rw [World.cell?_of_block (hg.block b h.lt (by simp;omega))];exact h.pos,by rw [World.frozen?_of_block (hg.block b h.lt (by simp;omega))];exact h.fr,⟨row_grown h.row.1 hg (fun hp=>by have:=hB.2 hp;omega),h.row.2⟩,h.ne⟩
theorem TapeIn.low {w:World} {b a:Nat} {L:IL} (h:TapeIn w b L a) :b<w.heap.size∧(0<L.l.length→L.h.b<w.heap.size):=⟨h.lt,fun hp=>h.row.1.blk hp⟩
def NewV (typ:Int) (k:V) :Prop:=k.kind=typ∧(validV k=true∧Pool k)∧k.wf
theorem newI {n:Int} (h : -1000000000000≤n∧n<1000) :NewV 1 ⟨1,n,⟨#[]⟩⟩:=by
 refine⟨rfl,⟨?_,h.2,by show([] :List UInt8).head? ≠_;decide⟩,⟨?_,?_,?_⟩⟩
 ·show(if (1:Int) =0 then _ else if (1:Int) =1 then (inR n && ((⟨#[]⟩ :ByteArray).toList == [])) else _) =true
  rw [if_neg (by decide),if_pos rfl,show inR n=true from decide_eq_true ⟨h.1,by omega⟩,ByteArray.toList_eq]
  rfl
 ·show int64 1;constructor<;>decide
 ·show int64 n;constructor<;>omega
 ·show(⟨#[]⟩ :ByteArray).size≤maxLen
  exact Nat.zero_le _
theorem newT {s:ByteArray} (h1:s.size≤24) (h2:txt s=true) (h3:s.data.toList.head? ≠some 118) :NewV 3 ⟨3,0,s⟩:=by
 refine⟨rfl,⟨?_,by show(0:Int) <1000;decide,h3⟩,⟨?_,?_,?_⟩⟩
 ·show(if (3:Int) =0 then _ else if (3:Int) =1 then _ else if (3:Int) =2 then _ else if (3:Int) =3 then ((0:Int) == 0) && txt s else false) =true
  rw [if_neg (by decide),if_neg (by decide),if_neg (by decide),if_pos rfl,h2]
  rfl
 ·show int64 3;constructor<;>decide
 ·show int64 0;constructor<;>decide
 ·show s.size≤maxLen
  unfold maxLen;omega
def ValPost (typ:Int) (w:World) (b a:Nat) (L:IL) (e:Ending) (w':World) :Prop:=∃k:V,e = .returned (.agg #[.int .i64 k.kind,.int .i64 k.num,.string k.text])∧NewV typ k∧(∃a',a'≤a+1∧TapeIn w' b L a')∧w.grownBy w' (some b)
theorem pos_le (L:IL) (a:Nat) :posAt L a≤a+1:=by unfold posAt;split<;>omega
theorem value_1 (w:World) (b a:Nat) (L:IL) (ht:TapeIn w b L a) (ha:a≤4611686018427387900) :Calls Tryz.prog 52 #[.pointer (some ⟨b,0,none⟩),.int .i64 1,.bool false] w (ValPost 1 w b a L):=by
 have HT:=ai ht;have hbw:=ht.lt;have HLW:=ai ht.low;clear ht;obtain⟨X,hX⟩ : ∃X,(w.alloc (.cells #[.int .i64 0,.int .i64 0,.string ⟨#[]⟩] 81)).alloc (.cells #[.int .i64 0,.int .i64 1,.int .i64 2,.int .i64 3,.int .i64 (-1),.int .i64 5] 3) =X:=⟨_,rfl⟩;have HBX:=ai (show Below w.heap.size w X from by rw [←hX];exact belAA _ _)
 have HB0:=ai (show Box X w.heap.size #[.int .i64 0,.int .i64 0,.string ⟨#[]⟩] 81 from by rw [←hX];exact(Box.new _ _ _).below (belA _))
 have HIL:=ai (show IL.In X ⟨⟨some ⟨w.heap.size+1,0,none⟩,6⟩,[0,1,2,3,-1,5]⟩from by
  have h:=Box.new (w.alloc (.cells #[.int .i64 0,.int .i64 0,.string ⟨#[]⟩] 81)) #[.int .i64 0,.int .i64 1,.int .i64 2,.int .i64 3,.int .i64 (-1),.int .i64 5] 3;rw [hX,World.size_alloc]at h;exact il_box (xs:= [0,1,2,3,-1,5]) h (by decide) (fun n hn=>by
   simp only [List.mem_cons,List.not_mem_nil,or_false]at hn;rcases hn with rfl|rfl|rfl|rfl|rfl|rfl<;>(constructor<;>decide)))
 have HTX:=ai (HT.o.mono HBX.o);subst hX
 go_enter Tryz.func52,Tryz.ntmps52;go_wp2_with (first
  | (go_at_call 39;refine(pick_any _ b a L ⟨⟨some ⟨w.heap.size+1,0,none⟩,6⟩,[0,1,2,3,-1,5]⟩ HTX.o (by omega) HIL.o (by show 0<6;decide) (by show w.heap.size+1≠b;omega)).mono ?_;rintro e y ⟨⟨k,hk,_,rfl⟩,h2,h3⟩;have HTY:=ai h2;have HGY:=ai ((only_below HBX.o (some b)).trans h3);have HBY:=ai (HB0.o.grown h3 (by intro e;injection e with e;omega));have HN:=ai (List.getElem_mem hk);clear h2 h3;generalize ([0,1,2,3,-1,5] :List Int)[k] =n at *)
  | (go_at_call 41;refine(fint_any n _).mono ?_;rintro e z ⟨rfl,hz⟩;have HZ:=ai hz;have HBZ:=ai (HBY.o.below hz);have z0:z.cell? ⟨w.heap.size,0,none⟩ =some (.int .i64 0):=HBZ.o.cell rfl;have z1:z.cell? ⟨w.heap.size,1,none⟩ =some (.int .i64 0):=HBZ.o.cell rfl;have z2:z.cell? ⟨w.heap.size,2,none⟩ =some (.string ⟨#[]⟩):=HBZ.o.cell rfl;have f0:=HBZ.o.fr 0;have f1:=HBZ.o.fr 1;have f2:=HBZ.o.fr 2;clear hz))
 have HF:ValPost 1 w b a L (.returned (.agg #[.int .i64 1,.int .i64 n,.string ⟨#[]⟩])) (((z.setCell ⟨w.heap.size,0,none⟩ (.int .i64 1)).setCell ⟨w.heap.size,1,none⟩ (.int .i64 n)).setCell ⟨w.heap.size,2,none⟩ (.string ⟨#[]⟩)):=by
  have hg:=set3 z w.heap.size (.int .i64 1) (.int .i64 n) (.string ⟨#[]⟩);have hn:n=0∨n=1∨n=2∨n=3∨n = -1∨n=5:=by simpa using HN.o
  have htz:=HTY.o.mono HZ.o;exact⟨⟨1,n,⟨#[]⟩⟩,rfl,newI (by omega),⟨_,pos_le L a,tz2 htz hg HLW.o (Nat.le_refl _)⟩,gb_then (gb_bel HGY.o HZ.o) hg (Nat.le_refl _)⟩
 refine bodyPost_ret (v:=.agg #[.int .i64 1,.int .i64 n,.string ⟨#[]⟩]) ?_ ?_ ?_
 case refine_3=>exact HF
 case refine_2=>rfl
 simp [results,Tryz.results52,go_sem,z0,z1,z2]
def fvT:List ByteArray:= [⟨#[97]⟩,⟨#[98]⟩,⟨#[]⟩,⟨#[97,98]⟩]
abbrev scs (x:ByteArray) :List Value:= [.string x]
theorem fvT_ok (i:Nat) (hi:i<fvT.length) : (fvT[i]).size≤2∧txt fvT[i] =true∧(fvT[i]).data.toList.head? ≠some 118:=by
 have hc: ∀s∈fvT,s.size≤24∧(s.data.toList.all fun b=>goodN b.toNat) =true∧s.size≤2∧s.data.toList.head? ≠some 118:=by decide
 obtain⟨h1,h2,h3,h4⟩:=hc _ (List.getElem_mem hi);refine⟨h3,txt_yes ⟨h1,fun j hj=> ?_⟩,h4⟩
 exact List.all_eq_true.1 h2 _ (by
  rw [ByteArray.getElem_eq_getElem_data];exact Array.mem_toList_iff.2 (Array.getElem_mem _))
theorem cell_off {y:World} {b o o':Nat} {v:Value} (h:o=o') (hc:y.cell? ⟨b,o,none⟩ =some v) :y.cell? ⟨b,o',none⟩ =some v:=h▸hc
theorem szstr: (Tryz.prog.info? 9).map (·.size) =some 1:=by kernel_rfl
theorem value_3 (w:World) (b a:Nat) (L:IL) (ht:TapeIn w b L a) (ha:a≤4611686018427387900) :Calls Tryz.prog 52 #[.pointer (some ⟨b,0,none⟩),.int .i64 3,.bool false] w (ValPost 3 w b a L):=by
 have HT:=ai ht;have hbw:=ht.lt;have HLW:=ai ht.low;clear ht;obtain⟨X,hX⟩ : ∃X,(w.alloc (.cells #[.int .i64 0,.int .i64 0,.string ⟨#[]⟩] 81)).alloc (.cells #[.string ⟨#[97]⟩,.string ⟨#[98]⟩,.string ⟨#[]⟩,.string ⟨#[97,98]⟩] 9) =X:=⟨_,rfl⟩;have HBX:=ai (show Below w.heap.size w X from by rw [←hX];exact belAA _ _)
 have HB0:=ai (show Box X w.heap.size #[.int .i64 0,.int .i64 0,.string ⟨#[]⟩] 81 from by rw [←hX];exact(Box.new _ _ _).below (belA _))
 have HST:=ai (show Box X (w.heap.size+1) (fvT.flatMap scs).toArray 9 from by
  have h:=Box.new (w.alloc (.cells #[.int .i64 0,.int .i64 0,.string ⟨#[]⟩] 81)) #[.string ⟨#[97]⟩,.string ⟨#[98]⟩,.string ⟨#[]⟩,.string ⟨#[97,98]⟩] 9;rw [hX,World.size_alloc]at h;exact h)
 have HTX:=ai (HT.o.mono HBX.o);subst hX;have h64:int64 (4:Int):=by constructor<;>decide
 have hn4:=fmod_ok (x:=rawAt L a) (n:=4) (by omega)
 obtain⟨k,hk,hkn⟩ : ∃k:Nat,k<4∧nAt L a 4=k:=⟨(nAt L a 4).toNat,by unfold nAt;omega,by unfold nAt;omega⟩
 have HKN:=ai hkn;clear hn4 hkn
 go_enter Tryz.func52,Tryz.ntmps52;go_wp2_with (first
  | (go_at_call 10;(refine(n_any _ b a L 4 HTX.o (by omega) h64).mono ?_;rintro e y ⟨rfl,h2,h3⟩;rw [HKN.o];have HTY:=ai h2;have HGY:=ai ((only_below HBX.o (some b)).trans h3);have HBY:=ai (HB0.o.grown h3 (by intro e;injection e with e;omega));have HSY:=HST.o.grown h3 (by intro e;injection e with e;omega);have hr:=row_box (cells:=scs) (fun _=>rfl) HSY (by decide);have hix:=hr.ix (i:=k) (by show k<4;omega) Tryz.underlying142 szstr;have hk':k<fvT.length:=hk;have c1:y.cell? ⟨w.heap.size+1,0+k*1+0,none⟩ =some (.string fvT[k]):=hr.2.2.2 k hk' 0 _ rfl;have c1:=cell_off (show 0+k*1+0=k by omega) c1;obtain⟨n,hn⟩ : ∃n,fvT[k] =n:=⟨_,rfl⟩;have HN:=ai (fvT_ok k hk');rw [hn]at c1 HN;have c0:=c1;have hbl:=HSY.lt;clear h2 h3 hr HSY hn c1))
  | (go_at_call 53;refine(ftxt_any n _).mono ?_;rintro e z ⟨rfl,hz⟩;have HZ:=ai hz;have HBZ:=ai (HBY.o.below hz);have z0:z.cell? ⟨w.heap.size,0,none⟩ =some (.int .i64 0):=HBZ.o.cell rfl;have z1:z.cell? ⟨w.heap.size,1,none⟩ =some (.int .i64 0):=HBZ.o.cell rfl;have z2:z.cell? ⟨w.heap.size,2,none⟩ =some (.string ⟨#[]⟩):=HBZ.o.cell rfl;have f0:=HBZ.o.fr 0;have f1:=HBZ.o.fr 1;have f2:=HBZ.o.fr 2;clear hz))
 have HF:ValPost 3 w b a L (.returned (.agg #[.int .i64 3,.int .i64 0,.string n])) (((z.setCell ⟨w.heap.size,0,none⟩ (.int .i64 3)).setCell ⟨w.heap.size,1,none⟩ (.int .i64 0)).setCell ⟨w.heap.size,2,none⟩ (.string n)):=by
  have hg:=set3 z w.heap.size (.int .i64 3) (.int .i64 0) (.string n);have htz:=HTY.o.mono HZ.o;exact⟨⟨3,0,n⟩,rfl,newT (Nat.le_trans HN.o.1 (by decide)) HN.o.2.1 HN.o.2.2,⟨_,pos_le L a,tz2 htz hg HLW.o (Nat.le_refl _)⟩,gb_then (gb_bel HGY.o HZ.o) hg (Nat.le_refl _)⟩
 refine bodyPost_ret (v:=.agg #[.int .i64 3,.int .i64 0,.string n]) ?_ ?_ ?_
 case refine_3=>exact HF
 case refine_2=>rfl
 simp [results,Tryz.results52,go_sem,z0,z1,z2]
theorem value_any (typ:Int) (hty:typ=1∨typ=3) (w:World) (b a:Nat) (L:IL) (ht:TapeIn w b L a) (ha:a≤4611686018427387900) :Calls Tryz.prog 52 #[.pointer (some ⟨b,0,none⟩),.int .i64 typ,.bool false] w (ValPost typ w b a L):=by
 rcases hty with rfl|rfl
 ·exact value_1 w b a L ht ha
 ·exact value_3 w b a L ht ha
end Go.Proofs.YtiijaaohphokcaaGreatDoor

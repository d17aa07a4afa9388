/- law27.ConjunctiveContains: what the law says of the rows. -/
import Derived.Test.YtiijaaohphokcaaGreatDoorG42
import Derived.Test.YtiijaaohphokcaaGreatDoorG40
import Derived.Test.YtiijaaohphokcaaGreatDoorBgWK
import Derived.Test.YtiijaaohphokcaaGreatDoorG44
import Derived.Test.YtiijaaohphokcaaGreatDoorProg
import Derived.Test.YtiijaaohphokcaaGreatDoorDataK
import Derived.ProofKit
import Derived.OpenShut
import Derived.KernelRfl
set_option maxRecDepth 100000
set_option maxHeartbeats 16000000
namespace Go.Proofs.YtiijaaohphokcaaGreatDoor
open Go.RowKit
section
variable {w w2 x y:World} {I:IL} {s:Sch} {qb a a2:Nat} {q p r:Cq} {l:List (Nat×Cq)}
theorem Wk2.hom (h:Wk2 q p) :Hom q.cj p.cj:=Hom.sub h.1.symm (fun m hm=>by
 obtain⟨n,hn,rfl⟩:=List.mem_map.1 hm;exact List.mem_map_of_mem (h.2.1 n hn))
theorem Wk2.few (h:Wk2 q p) (hq:q.lits.length≤5) :p.lits.length≤5:=by have:=h.2.2;omega
theorem FitI.more {T:List (List Int)} {X:Ins} {m n:Nat} (h:FitI T X m) (hm:m≤n) :FitI T X n:=⟨h.len,fun r hr=>Nat.le_trans (h.few r hr) hm,h.row⟩
theorem rows_wide {T:List (List Int)} {B n:Nat} {X:Ins} {u:RL} (rq:RightQ x T q B) (hf:FitI T X n) (hu:u.rows.Perm (q.cj.rows X.D nulV)) : ∀v∈u.l,v.l.length≤1000:=fun v hv=>by
 obtain⟨τ,hr⟩:=rq.ri;have h1:v.l∈q.cj.rows X.D nulV:=hu.subset (List.mem_map_of_mem hv);obtain⟨θ,_,h2⟩:=(mem_rows (hf.wide hr) hr.cov).1 h1;rw [←h2,List.length_map];exact Nat.le_trans hr.h24 (by decide)
theorem rows_count {X:Ins} {u:RL} (hf:FitI (colT s) X 3) (hl:p.lits.length≤6) (hu:u.rows.Perm (p.cj.rows X.D nulV)) :u.l.length≤1000:=by
 have h:=hu.length_eq;rw [rows_len']at h;rw [h];exact rows_few hf hl
theorem cont_law {T:List (List Int)} {B C n:Nat} {X:Ins} {u v:RL} {c c2:Bool} {τ:Nat→Int} (rp:RightQ x T p B) (rq:RightQ x T q C) (hf:FitI T X n) (hp:Right T p.vars p.cj τ)
  (hc:c=true↔Hom q.cj p.cj) (hD:c=false→∀t row,row∈X.D t↔∃l∈p.cj.lits,l.1=t∧l.2.map (Tm.at (nuV τ)) =row)
  (hu:u.rows.Perm (p.cj.rows X.D nulV)) (hv:v.rows.Perm (q.cj.rows X.D nulV)) (h2:c2=true↔∀r∈u.rows,r∈v.rows) :c2=c:=by
 obtain⟨σ,hq⟩:=rq.ri
 cases c with
 | true=>
  exact h2.2 (fun r hr=>hv.symm.subset (rows_sub (hf.wide hp) (hf.wide hq) hp.cov hq.cov (hc.1 rfl) (hu.subset hr)))
 | false=>
  refine Bool.eq_false_iff.2 (fun h=> ?_)
  have hd:=hD rfl;have h3:=h2.1 h _ (hu.symm.subset (frozen_own (d:=nulV) hd (hf.wide hp) hp.cov))
  have h4:=frozen_hom (newVal_of hp hq) hd (hf.wide hq) hp.cov hq.cov (hv.subset h3);have:=hc.2 h4
  cases this
theorem LC.putQ {g a':Nat} {U:TypeId} (h:LC w I s w2 qb a' q x) (hb:Box x g (qcells p) U) (rp:RightQ x (colT s) p (w.heap.size+1)) (hq:qb<g) (hI:0<I.l.length→I.h.b≠g) (hg:x.grownBy y (some g)) :LC w I s w2 qb a' q y:=by
 have h1:=h.lo;have h2:=h.qlo;have htl:=h.tp.lt;refine⟨h.bel.grown hg h.bel.size (fun k hk=>by injection hk with hk;omega),⟨?_,?_,?_,il_grown h.tp.row hg hI,h.tp.ne⟩,h.gr.andThen hg (fun j e=>.inl (by injection e with e;omega)),h.bs.grown hg (by intro e;injection e with e;omega),h.bq.grown hg (by intro e;injection e with e;omega),h.rq.put rp hb hg,h1,h2,h.ll⟩
 ·rw [hg.cell_far ⟨w.heap.size,0,none⟩ htl (fun e=>by have e:some w.heap.size=some g:=e;injection e with e;omega)];exact h.tp.lst
 ·rw [hg.cell_far ⟨w.heap.size,1,none⟩ htl (fun e=>by have e:some w.heap.size=some g:=e;injection e with e;omega)];exact h.tp.pos
 ·rw [hg.frozen_far ⟨w.heap.size,1,none⟩ htl (fun e=>by have e:some w.heap.size=some g:=e;injection e with e;omega)];exact h.tp.fr
theorem LC.ine {g:Nat} (h:LC w I s w2 qb a q x) (hg:w2.heap.size<g) :0<I.l.length→I.h.b≠g:=fun hp=>by have:=h.ll hp;omega
theorem colT_pos (hp:PSch s) : ∀ty∈colT s,0<ty.length:=fun ty hty=>by
 obtain⟨tb,htb,rfl⟩:=List.mem_map.1 hty;obtain⟨nm,ch,cols,ph,e,_,h7⟩:=hp.pl tb htb;rw [e]
 show 0< (cols.map Col.typ).length
 rw [List.length_map];exact h7.l1
end
end Go.Proofs.YtiijaaohphokcaaGreatDoor
/- law27.ConjunctiveContains: its walk. -/
namespace Go.Proofs.YtiijaaohphokcaaGreatDoor
open Go.RowKit
theorem contains_walk (l:IL) (w:World) (hl:l.In w) (hsh:w.ShapedOpen Tryz.prog) :Calls Tryz.prog 4 #[.slice l.h.ao l.l.length l.h.cap] w fun e w'=>e = .returned (.bool true)∧Below w.heap.size w w':=by
 have HL:=ai hl;have HSH:=ai hsh;clear hl hsh
 go_enter Tryz.func4,Tryz.ntmps4;go_upto_region 3 with(first
  | (have hq:=HT1;clear hq;go_at_call 8;refine(plain_any w1 w.heap.size L 0 HT1.o (by decide)).mono ?_;rintro e w2 ⟨s,a2,rfl,h1,h2,h3,h4,h5,h6⟩;have HSI:=ai h1;have HPS:=ai h2;have HC3:=ai h3;have HT2:=ai h4;have HA2:=ai h5;have HG2:=ai h6;clear h1 h2 h3 h4 h5 h6)
  | (go_at_call 7;refine(fnew_any l _ HL.o).mono ?_;rintro e w1 ⟨L,_,rfl,h1,h2⟩;have HT1:=ai h1;have HB1:=ai h2;clear h1 h2))
 have HB2:=ai (bgrow HB1.o HG2.o);have hlo:=HT2.o.lt;obtain⟨X2,hX2⟩ : ∃X2,w2.alloc (.cells #[.slice s.th.ao s.tabs.length s.th.cap] 27) =X2:=⟨_,rfl⟩;have HA:=ai (show Below w2.heap.size w2 X2 from by rw [←hX2];exact belA _)
 have HBS:=ai (show Box X2 w2.heap.size #[.slice s.th.ao s.tabs.length s.th.cap] 27 from by rw [←hX2];exact Box.new _ _ _)
 rw [hX2];clear hX2;have hs2:=HBS.o.lt;have s0:=HBS.o.cell (j:=0) rfl
 have HCJ:=ai (conj_any s X2 w.heap.size L a2 3 (HT2.o.mono HA.o) (by have:=HA2.o;omega) (fun z hz=>HSI.o z ((only_below HA.o (some w.heap.size)).trans hz)) HPS.o HC3.o (by decide))
 go_upto_region 4 with(go_at_call 9;refine HCJ.o.mono ?_;rintro e w3 ⟨q,a3,rfl,h1,h2,h3,h4,h5⟩;have HRQ:=ai h1;have HT3:=ai h2;have HA3:=ai h3;have HG3:=ai h4;have HQ3:=ai h5;clear h1 h2 h3 h4 h5 HCJ)
 clear s0;have hs3:=HG3.o.size;have HLC:=ai (show LC w L s w2 w3.heap.size a3 q (w3.alloc (.cells #[.int .i64 (q.vars:Nat),.slice q.lh.ao q.lits.length q.lh.cap,.slice q.head.h.ao q.head.l.length q.head.h.cap] 32))from
  ⟨bT (bgrow (bT HB2.o HA.o) HG3.o) (belA _),HT3.o.mono (belA _),((only_below HA.o (some w.heap.size)).trans HG3.o).trans (only_below (belA _) _),(HBS.o.grown HG3.o (by intro e;injection e with e;omega)).below (belA _),Box.new _ _ _,(HRQ.o.le (by omega)).mono (belA _),hlo,by omega,HT2.o.low.2⟩)
 have hqb: ∃qb,w3.heap.size=qb:=⟨_,rfl⟩;obtain⟨qb,hqb⟩:=hqb;rw [hqb]at HLC;simp only [hqb];obtain⟨X3,hX3⟩ : ∃X3,w3.alloc (.cells #[.int .i64 (q.vars:Nat),.slice q.lh.ao q.lits.length q.lh.cap,.slice q.head.h.ao q.head.l.length q.head.h.cap] 32) =X3:=⟨_,rfl⟩;rw [hX3]at HLC ⊢;have HAB:=ai (show a3≤1000 from by have:=HA2.o;have:=HA3.o;omega)
 clear hX3 hqb hs3 HRQ HT3 HG3 HBS HA HB2 HB1 HG2 HT1 HT2 HA2 HA3 hs2 hlo;have hlo:=HLC.o.lo;have hqlo:=HLC.o.qlo;go_upto_region 4 with fail
 refine cn_reg4 (w:=w) (w2:=w2) (sc:=s) (qb:=qb) (a:=a3) (I:=L) (q:=q) (W:=X3) hlo hqlo (ai (by have:=HAB.o;omega)) HPS HSI (ai ⟨a3,by simp,HLC.o.below (Below.refl _ _).drew⟩) ?hc ?hend
 case hc=>rfl
 case hend=>
 intro q1 p b7 a4 x ha4 hlc hrp hwk hbx hq7;clear hlo hqlo HLC;have hg:=set3 x b7 (.int .i64 (p.vars:Nat)) (.slice p.lh.ao p.lits.length p.lh.cap) (.slice p.head.h.ao p.head.l.length p.head.h.cap);have hsb:=((hbx.set 0 (.int .i64 (p.vars:Nat))).set 1 (.slice p.lh.ao p.lits.length p.lh.cap)).set 2 (.slice p.head.h.ao p.head.l.length p.head.h.cap);have h7:w2.heap.size<b7:=Nat.lt_trans hlc.qlo hq7;have hct:=colT_pos HPS.o;have HRP:=ai (hrp.put0 hbx hct hg);have HLC:=ai (hlc.put0 hbx hct hq7 (hlc.ine h7) hg);have HB7:=ai (show Box (((x.setCell ⟨b7,0,none⟩ (.int .i64 (p.vars:Nat))).setCell ⟨b7,1,none⟩ (.slice p.lh.ao p.lits.length p.lh.cap)).setCell ⟨b7,2,none⟩ (.slice p.head.h.ao p.head.l.length p.head.h.cap)) b7 (qcells p) 32 from by simpa only [qcells,List.setIfInBounds_toArray,List.set_cons_zero,List.set_cons_succ]using hsb)
 have HWK:=ai hwk;have HA4:=ai (show a4≤1010 from by have:=HAB.o;omega)
 have HQ7:=ai (And.intro hq7 h7);clear hg hsb hlc hrp hwk hbx hq7 h7 hct ha4 HAB;generalize ((x.setCell ⟨b7,0,none⟩ (.int .i64 (p.vars:Nat))).setCell ⟨b7,1,none⟩ (.slice p.lh.ao p.lits.length p.lh.cap)).setCell ⟨b7,2,none⟩ (.slice p.head.h.ao p.head.l.length p.head.h.cap) =X4 at *;have HN:=ai (n_any X4 w.heap.size a4 L 3 HLC.o.tp (by have:=HA4.o;omega) (by constructor<;>decide))
 go_upto_if 30 with(go_at_call 10;refine HN.o.mono ?_;rintro e w5 ⟨rfl,h1,h2⟩;have HL5:=ai (HLC.o.turn h2 h1);have HRP5:=ai (HRP.o.grown h2 (by omega));have HB75:=ai (HB7.o.grown h2 (by have:=HQ7.o;have:=HLC.o.lo;intro e;injection e with e;omega));clear h1 h2 HN HLC HRP HB7)
 have hpa:=pos_le L a4;obtain⟨a5,ha5⟩ : ∃a5,posAt L a4=a5:=⟨_,rfl⟩;rw [ha5]at HL5 hpa;have HA5:=ai (show a5≤1011 from by have:=HA4.o;omega)
 clear ha5 hpa HA4;obtain⟨k,hk⟩ : ∃k,nAt L a4 3=k:=⟨_,rfl⟩;rw [hk];clear hk;go_cut [] (fun wx=>∃(p':Cq) (a6:Nat),Hid (LC w L s w2 qb a6 q wx)∧Hid (RightQ wx (colT s) p' (w.heap.size+1))∧Hid (Box wx b7 (qcells p') 32)∧Hid (a6≤1200)∧Hid (Wk2 q p'∨p'.lits.length≤3))
 case first=>
  by_cases hk:k=2
  ·subst hk
   have s0:=HL5.o.bs.cell (j:=0) rfl
   have b0:=HB75.o.cell (j:=0) rfl
   have b1:=HB75.o.cell (j:=1) rfl
   have b2:=HB75.o.cell (j:=2) rfl
   have HCJ:=ai (conj_any s w5 w.heap.size L a5 3 HL5.o.tp (by have:=HA5.o;omega) (HL5.o.hsi HSI.o) HPS.o HC3.o (by decide))
   have HBY:=ai (fun(y:World) (hg:w5.grownBy y (some w.heap.size))=>HB75.o.grown hg (by have:=HQ7.o;have:=HL5.o.lo;intro e;injection e with e;omega))
   clear b0 b1 b2;go_wp2_with (go_at_call 9;refine HCJ.o.mono ?_;rintro e y ⟨p2,a6,rfl,h1,h2,h3,h4,h5⟩;have HP2:=ai h1;have HT2:=ai h2;have HA6:=ai h3;have HG6:=ai h4;have HL6:=ai h5;have HB7Y:=ai (HBY.o y h4);have o0:=HB7Y.o.cell (j:=0) rfl;have o1:=HB7Y.o.cell (j:=1) rfl;have o2:=HB7Y.o.cell (j:=2) rfl;have f0:=HB7Y.o.fr 0;have f1:=HB7Y.o.fr 1;have f2:=HB7Y.o.fr 2;clear h1 h2 h3 h4 h5)
   go_meet
   have hg:=set3 y b7 (.int .i64 (p2.vars:Nat)) (.slice p2.lh.ao p2.lits.length p2.lh.cap) (.slice p2.head.h.ao p2.head.l.length p2.head.h.cap);have hsb:=((HB7Y.o.set 0 (.int .i64 (p2.vars:Nat))).set 1 (.slice p2.lh.ao p2.lits.length p2.lh.cap)).set 2 (.slice p2.head.h.ao p2.head.l.length p2.head.h.cap);have hlc:=HL5.o.turn HG6.o HT2.o;have hrp:=HRP5.o.grown HG6.o (Nat.lt_succ_self _);have hlt:=HL5.o.lt;exact⟨p2,a6,ai (hlc.putQ HB7Y.o hrp HQ7.o.1 (hlc.ine HQ7.o.2) hg),ai ((HP2.o.le hlt).put hrp HB7Y.o hg),ai (by simpa only [qcells,List.setIfInBounds_toArray,List.set_cons_zero,List.set_cons_succ]using hsb),ai (by have:=HA5.o;have:=HA6.o;omega),ai (.inr HL6.o)⟩
  ·have hkb: (k == 2) =false:=beq_eq_false_iff_ne.2 hk
   go_wp2;go_meet
   exact⟨p,a5,HL5,HRP5,HB75,ai (by have:=HA5.o;omega),ai (.inl HWK.o)⟩
 case rest=>
 obtain⟨p,a6,HLC,HRP,HB7,HA6,HWP⟩:=hcut;obtain⟨w6,rfl⟩ : ∃M,M=wc:=⟨_,rfl⟩;clear HL5 HRP5 HB75 HWK HA5;have s0:=HLC.o.bs.cell (j:=0) rfl
 have p0:=HB7.o.cell (j:=0) rfl
 have p1:=HB7.o.cell (j:=1) rfl
 have p2:=HB7.o.cell (j:=2) rfl
 have q0:=HLC.o.bq.cell (j:=0) rfl
 have q1:=HLC.o.bq.cell (j:=1) rfl
 have q2:=HLC.o.bq.cell (j:=2) rfl
 have HC:=ai (lc_contains HLC.o HSI.o HPS.o HSH.o HRP.o HLC.o.rq);go_upto_region 10 with(go_at_call 13;refine HC.o.mono ?_;rintro e y7 ⟨c,rfl,hc,hb⟩;have HLC:=ai (HLC.o.below hb);have HRP:=ai (HRP.o.mono hb);have HB7:=ai (HB7.o.below hb);have HCC:=ai hc;clear hc hb HC)
 clear s0 p0 p1 p2 q0 q1 q2;have s0:=HLC.o.bs.cell (j:=0) rfl
 have HC:=ai (facts_any s y7 w.heap.size L a6 3 HLC.o.tp (by have:=HA6.o;omega) (HLC.o.hsi HSI.o) HPS.o (by decide))
 go_upto_if 47 with(go_at_call 17;refine HC.o.mono ?_;rintro e y10 ⟨X,a7,rfl,h1,h2,h3,h4⟩;have HLCF:=ai (HLC.o.turn h4 h3);have HRPF:=ai (HRP.o.grown h4 (Nat.lt_succ_self _));have HB7F:=ai (HB7.o.grown h4 (by have:=HQ7.o;have:=HLC.o.lo;intro e;injection e with e;omega));have HXI:=ai h1;have HXF:=ai h2;clear h1 h2 h3 h4 HC)
 clear s0;have HIB:=ai (show IB y10.heap.size X (y10.alloc (.cells #[.slice X.h.ao X.l.length X.h.cap] 46))from⟨Box.new _ _ _,HXI.o.mono (belA _)⟩)
 have HBY:=ai (belA (w:=y10) (.cells #[.slice X.h.ao X.l.length X.h.cap] 46))
 obtain⟨g9,hg9⟩ : ∃g,y10.heap.size=g:=⟨_,rfl⟩;have HG9:=ai hg9;rw [hg9]at HIB;simp only [hg9];obtain⟨Y,hY⟩ : ∃x,y10.alloc (.cells #[.slice X.h.ao X.l.length X.h.cap] 46) =x:=⟨_,rfl⟩;rw [hY]at HIB HBY ⊢;clear hY hg9 HXI HA6 HLC HRP HB7;go_cut [] (fun wx=>∃X':Ins,Hid (LC w L s w2 qb a7 q wx)∧Hid (RightQ wx (colT s) p (w.heap.size+1))∧Hid (Box wx b7 (qcells p) 32)∧Hid (IB g9 X' wx)∧Hid (FitI (colT s) X' 3)∧Hid (c=false→∃τ,Right (colT s) p.vars p.cj τ∧∀t row,row∈X'.D t↔∃l∈p.cj.lits,l.1=t∧l.2.map (Tm.at (nuV τ)) =row))
 case first=>
  cases c with
  | true=>
   go_wp2;go_meet
   exact⟨X,ai (HLCF.o.below HBY.o),ai (HRPF.o.mono HBY.o),ai (HB7F.o.below HBY.o),HIB,HXF,ai (fun h=>by cases h)⟩
  | false=>
   have hp3:p.lits.length≤3:=by
    rcases HWP.o with h|h
    ·have:=HCC.o.2 h.hom
     cases this
    ·exact h
   obtain⟨τ,hr⟩:=HRPF.o.ri;have HTR:=ai hr;have s0:=(HLCF.o.below HBY.o).bs.cell (j:=0) rfl
   have p0:=(HB7F.o.below HBY.o).cell (j:=0) rfl
   have p1:=(HB7F.o.below HBY.o).cell (j:=1) rfl
   have p2:=(HB7F.o.below HBY.o).cell (j:=2) rfl
   have HC:=ai (frozen_any s p τ _ Y (HRPF.o.mono HBY.o) hr (HSI.o _ (HLCF.o.below HBY.o).gr) HPS.o);have HP3:=ai hp3;clear hr hp3;go_wp2_with (go_at_call 18;refine HC.o.mono ?_;rintro e z ⟨X',rfl,h1,h2,h3,h4,h5⟩;have HF1:=ai h1;have HF2:=ai h2;have HF3:=ai h3;have HF4:=ai h4;have HF5:=ai h5;have HBX:=ai (HIB.o.box.below h5);have o0:=HBX.o.cell (j:=0) rfl;have f0:=HBX.o.fr 0;clear h1 h2 h3 h4 h5)
   go_meet
   have hbb:=(bT HBY.o HF5.o).grown (gb_set z g9 0 (.slice X'.h.ao X'.l.length X'.h.cap)) (bT HBY.o HF5.o).size (fun k hk=>by injection hk with hk;have:=HG9.o;omega)
   exact⟨X',ai (HLCF.o.below hbb),ai (HRPF.o.mono hbb),ai (HB7F.o.below hbb),ai ⟨by simpa only [List.setIfInBounds_toArray,List.set_cons_zero]using HBX.o.set 0 (.slice X'.h.ao X'.l.length X'.h.cap),HF4.o _ _ HIB.o.box.lt (gb_set _ _ _ _)⟩,ai (HF2.o.more HP3.o),ai (fun _=>⟨τ,HTR.o,HF3.o⟩)⟩
 case rest=>
 obtain⟨X',HLC,HRP,HB7,HI,HF,HD⟩:=hcut;obtain⟨w8,rfl⟩ : ∃M,M=wc:=⟨_,rfl⟩;clear HLCF HRPF HB7F HIB HBY HXF HG9;have s0:=HLC.o.bs.cell (j:=0) rfl
 have p0:=HB7.o.cell (j:=0) rfl
 have p1:=HB7.o.cell (j:=1) rfl
 have p2:=HB7.o.cell (j:=2) rfl
 have i0:=HI.o.box.cell (j:=0) rfl
 have HC:=ai (lc_eval HLC.o HSI.o HPS.o HSH.o HRP.o HI.o.ins HF.o (HWP.o.elim (fun h=>Nat.le_trans (h.few (Nat.le_trans HQ3.o (by decide))) (by decide)) (fun h=>Nat.le_trans h (by decide))))
 go_upto_region 14 with(go_at_call 19;refine HC.o.mono ?_;rintro e y11 ⟨u,rfl,h1,h2,h3,hb⟩;have HLC:=ai (HLC.o.below hb);have HRP:=ai (HRP.o.mono hb);have HI:=ai (HI.o.below hb);have HUI:=ai h1;have HUP:=ai h2;clear h1 h2 h3 hb HC HB7)
 clear s0 p0 p1 p2 i0;have s0:=HLC.o.bs.cell (j:=0) rfl
 have q0:=HLC.o.bq.cell (j:=0) rfl
 have q1:=HLC.o.bq.cell (j:=1) rfl
 have q2:=HLC.o.bq.cell (j:=2) rfl
 have i0:=HI.o.box.cell (j:=0) rfl
 have HC:=ai (lc_eval HLC.o HSI.o HPS.o HSH.o HLC.o.rq HI.o.ins HF.o (Nat.le_trans HQ3.o (by decide)))
 go_upto_region 17 with(go_at_call 19;refine HC.o.mono ?_;rintro e y12 ⟨v,rfl,h1,h2,h3,hb⟩;have HLC:=ai (HLC.o.below hb);have HRP:=ai (HRP.o.mono hb);have HUI:=ai (HUI.o.mono hb);have HVI:=ai h1;have HVP:=ai h2;clear h1 h2 h3 hb HC HI)
 clear s0 q0 q1 q2 i0;have HUN:=ai (And.intro (rows_wide HRP.o HF.o HUP.o) (rows_count HF.o (HWP.o.elim (fun h=>Nat.le_trans (h.few (Nat.le_trans HQ3.o (by decide))) (by decide)) (fun h=>Nat.le_trans h (by decide))) HUP.o))
 have HC1:=ai (distinct_any v y12 HVI.o (rows_wide HLC.o.rq HF.o HVP.o) (rows_count HF.o (Nat.le_trans HQ3.o (by decide)) HVP.o))
 have HVN:=ai (rows_count HF.o (Nat.le_trans HQ3.o (by decide)) HVP.o)
 have HCL:=ai (fun(c2:Bool) (h2:c2=true↔∀r∈u.rows,r∈v.rows)=>show c2=c from by
  cases hcc:c with
  | true=>rw [←hcc];obtain⟨τ,hr⟩:=HRP.o.ri;exact cont_law HRP.o HLC.o.rq HF.o hr HCC.o (fun h=>by rw [hcc]at h;cases h) HUP.o HVP.o h2
  | false=>rw [←hcc];obtain⟨τ,hr,hD⟩:=HD.o hcc;exact cont_law HRP.o HLC.o.rq HF.o hr HCC.o (fun _=>hD) HUP.o HVP.o h2)
 have HBE:=ai HLC.o.bel;clear HLC HRP HF HD HWP HCC HUP HVP HSI HPS HVI HQ3;go_wp2_with (first
  | (go_at_call 16;refine HC4.o.mono ?_;rintro e y16 ⟨rfl,hb⟩;have HE:=ai hb;clear hb HC4)
  | (go_at_call 20;refine HC3.o.mono ?_;rintro e y15 ⟨c2,rfl,h2,hb⟩;obtain rfl:=HCL.o c2 (h2.trans HEQ.o);have HBE:=ai (bT HBE.o hb);have HC4:=ai (awake_any y15 (ShX HSH.o HBE.o));clear h2 hb HC3 HCL HEQ)
  | (have hq:=HC1;clear hq;go_at_call 21;refine HC1.o.mono ?_;rintro e y13 ⟨d1,rfl,h1,h2,h3,h4,h5,hb⟩;have HC2:=ai (distinct_any u y13 (HUI.o.mono hb) HUN.o.1 HUN.o.2);have HBE:=ai (bT HBE.o hb);have HD1:=ai (And.intro h1 (And.intro h2 (And.intro h3 (And.intro h4 h5))));clear h1 h2 h3 h4 h5 hb HC1 HUI)
  | (have hq:=HC2;clear hq;go_at_call 21;refine HC2.o.mono ?_;rintro e y14 ⟨d2,rfl,h1,h2,h3,h4,h5,hb⟩;have HC3:=ai (bcontains_any d1 d2 y14 (HD1.o.1.mono hb) h1 HD1.o.2.2.2.2 h5 (Nat.le_trans HD1.o.2.2.2.1 HVN.o) (Nat.le_trans h4 HUN.o.2) HD1.o.2.1 h2);have HEQ:=ai (show(∀r∈d2.rows,r∈d1.rows)↔(∀r∈u.rows,r∈v.rows)from⟨fun h r hr=>(HD1.o.2.2.1 r).1 (h r ((h3 r).2 hr)),fun h r hr=>(HD1.o.2.2.1 r).2 (h r ((h3 r).1 hr))⟩);have HBE:=ai (bT HBE.o hb);clear h1 h2 h3 h4 h5 hb HC2 HD1))
 go_ret
 exact⟨rfl,bT HBE.o HE.o⟩
end Go.Proofs.YtiijaaohphokcaaGreatDoor
/- What reads as a Go value is one of the trees of the data text, and lies in the world. -/
namespace Go.Proofs.YtiijaaohphokcaaGreatDoor
open Go.RowKit Go.ChangeShapes Go.WideShapes
section
variable {H:Type} {enc:TypeId×Value→H} {w:World} {sp:Nat→Bool} {hd:Bool}
theorem pick_list {α:Type} {p:Nat→α→Prop} : ∀(n:Nat),(∀i,i<n→∃a,p i a)→∃xs:List α,xs.length=n∧∀i (h:i<xs.length),p i xs[i]
 | 0,_=>⟨[],rfl,fun i h=>absurd h (by simp)⟩
 | n+1,h=>by
  obtain⟨xs,hl,hx⟩:=pick_list n (fun i hi=>h i (by omega))
  obtain⟨a,ha⟩:=h n (by omega)
  refine⟨xs ++ [a],by simp [hl],fun i hi=> ?_⟩
  by_cases e:i<xs.length
  ·rw [List.getElem_append_left e];exact hx i e
  ·have hin:i=xs.length:=by simp at hi;omega
   subst hin;rw [List.getElem_append_right (by omega)]
   simpa [hl]using ha
theorem open_row {P:Program} {α:Type} {t e:TypeId} {size fuel:Nat} {cs:List Value} {x:DataW H×List MemPlace} (cells:α→List Value) (good:α→Prop)
  (ht:P.underlying t=some (.slice e)) (hc:P.cellsOf e=size) (hpos:0<size)
  (hel: ∀fuel' cs' x',fuel'<fuel→DataW.trod enc P w 0 sp hd fuel' e cs'=some x'→∃a:α,cs'=cells a∧good a)
  (h:DataW.trod enc P w 0 sp hd fuel t cs=some x) : ∃(h:Hd) (xs:List α),cs = [.slice h.ao xs.length h.cap]∧Row w size cells h xs∧∀a∈xs,good a:=by
 rcases DataW.trod_slice ht h with⟨rfl,_⟩ | ⟨a,len,cap,elems,rest,n,hn,rfl,_,_,hl,hm,hlen,hall,_⟩
 ·exact⟨nilHd,[],rfl,Row.nil _ _ _,fun a ha=>by cases ha⟩
 ·rw [hc]at hall
  have key: ∀i,i<len→∃b:α,(∀j v,(cells b)[j]? = some v→w.cell? ((a.add (i*size)).add j) =some v)∧(cells b).length=size∧good b:=by
   intro i hi;have h1:=hall i hi;rw [List.getElem?_eq_getElem (by omega)]at h1
   obtain⟨cs',hcs,htr⟩:=Option.bind_eq_some_iff.1 h1;obtain⟨b,rfl,hb⟩:=hel n cs' _ (by omega) htr
   obtain⟨_,hcl,hcell⟩:=World.cells?_some hcs;refine⟨b,fun j v hv=> ?_,hcl,hb⟩
   have hj:j<size:=by rw [←hcl];exact(List.getElem?_eq_some_iff.1 hv).1
   rw [hcell j hj];exact hv
  obtain⟨xs,hxl,hx⟩:=pick_list len key;subst hxl;obtain⟨b,o,spot⟩:=a;have hspot:0<xs.length→spot=none∧b<w.heap.size:=by
   intro hp;obtain⟨g1,g2,_⟩:=hx 0 hp;have hv: (cells (xs[0]'hp))[0]? = some ((cells (xs[0]'hp))[0]'(by omega)):=List.getElem?_eq_getElem (by omega)
   have:=g1 0 _ hv;simp only [Nat.zero_mul]at this;have h0: ((⟨b,o,spot⟩ :Addr).add 0).add 0= ⟨b,o,spot⟩:=by simp [Addr.add]
   rw [h0]at this;have hs:=World.cell?_spot this;have hs':spot=none:=by simpa using hs
   subst hs';exact⟨rfl,World.block_lt_of_cell? w ⟨b,o,none⟩ this⟩
  refine⟨⟨some ⟨b,o,spot⟩,cap⟩,xs,rfl,⟨hl,hm,fun hp=> ?_,fun i hi j v hv=> ?_⟩,fun a ha=> ?_⟩
  ·obtain⟨rfl,hlt⟩:=hspot hp
   exact⟨rfl,hlt⟩
  ·obtain⟨rfl,hlt⟩:=hspot (by omega)
   have:=(hx i hi).1 j v hv;rw [Addr.add_lit,Addr.add_lit]at this;exact this
  ·obtain⟨i,hi,rfl⟩:=List.getElem_of_mem ha
   exact(hx i hi).2.2
theorem int64_of {n:Int} (h: (Lit.int .i64 n).wf=true) :int64 n:=by
 exact bounds_i64 h
theorem cells_of_int:Tryz.prog.cellsOf 3=1:=by kernel_rfl
theorem open_il {fuel:Nat} {cs:List Value} {x:DataW H×List MemPlace} (h:DataW.trod enc Tryz.prog w 0 sp hd fuel 22 cs=some x) : ∃r:IL,cs=r.cells∧r.In w:=by
 obtain⟨hd,xs,rfl,hr,hg⟩:=open_row icells int64 Tryz.underlying22 cells_of_int (by decide) (fun f cs x _ h=>by obtain⟨n,rfl,_,hw⟩:=DataW.trod_int Tryz.underlying3 h;exact⟨n,rfl,int64_of hw⟩) h
 exact⟨⟨hd,xs⟩,rfl,hr,hg⟩
end
end Go.Proofs.YtiijaaohphokcaaGreatDoor

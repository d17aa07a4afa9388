/- law27.two: its walk. -/
import Derived.Test.YtiijaaohphokcaaGreatDoorG29
import Derived.Test.YtiijaaohphokcaaGreatDoorG17
import Derived.Test.YtiijaaohphokcaaGreatDoorG22
import Derived.Test.YtiijaaohphokcaaGreatDoorCjL4K
import Derived.Test.YtiijaaohphokcaaGreatDoorG28
import Derived.Test.YtiijaaohphokcaaGreatDoorG25
set_option maxRecDepth 100000
set_option maxHeartbeats 16000000
namespace Go.Proofs.YtiijaaohphokcaaGreatDoor
open Go.RowKit
def exA:Cj V:=⟨[(0,[.v 0,.v 1]),(0,[.v 0,.v 2])],[.v 0]⟩
def exB:Cj V:=⟨[(0,[.v 0,.v 1])],[.v 0]⟩
theorem al1 {z y:World} {c:Array Value} {T:TypeId} (h:Below (z.alloc (.cells c T)).heap.size (z.alloc (.cells c T)) y) :Box y z.heap.size c T∧Below z.heap.size z y:=⟨(Box.new _ _ _).below h,bT (belA _) h⟩
theorem al2 {z y:World} {c d:Array Value} {T U:TypeId} (h:Below ((z.alloc (.cells c T)).alloc (.cells d U)).heap.size ((z.alloc (.cells c T)).alloc (.cells d U)) y) :Box y z.heap.size c T∧Box y (z.heap.size+1) d U∧Below z.heap.size z y:=by
 obtain⟨h1,h2⟩:=al1 h;rw [World.size_alloc]at h1;exact⟨(al1 h2).1,h1,(al1 h2).2⟩
theorem al6 {z y:World} {c1 c2 c3 c4 c5 c6:Array Value} {T1 T2 T3 T4 T5 T6:TypeId} (h:Below ((((((z.alloc (.cells c1 T1)).alloc (.cells c2 T2)).alloc (.cells c3 T3)).alloc (.cells c4 T4)).alloc (.cells c5 T5)).alloc (.cells c6 T6)).heap.size ((((((z.alloc (.cells c1 T1)).alloc (.cells c2 T2)).alloc (.cells c3 T3)).alloc (.cells c4 T4)).alloc (.cells c5 T5)).alloc (.cells c6 T6)) y) :
  Box y z.heap.size c1 T1∧Box y (z.heap.size+1) c2 T2∧Box y (z.heap.size+1+1) c3 T3∧Box y (z.heap.size+1+1+1) c4 T4∧Box y (z.heap.size+1+1+1+1) c5 T5∧Box y (z.heap.size+1+1+1+1+1) c6 T6∧Below z.heap.size z y:=by
 obtain⟨h5,h6,hb⟩:=al2 h;obtain⟨h3,h4,hb2⟩:=al2 hb;obtain⟨h1,h2,hb3⟩:=al2 hb2;simp only [World.size_alloc]at h3 h4 h5 h6;exact⟨h1,h2,h3,h4,h5,h6,hb3⟩
abbrev exTab (c p:Nat) :Tab:=pt ⟨#[116]⟩ ⟨some ⟨c,0,none⟩,2⟩ [⟨⟨#[107]⟩,1,false⟩,⟨⟨#[99]⟩,1,false⟩] ⟨some ⟨p,0,none⟩,1⟩
theorem isname_t:IsName ⟨#[116]⟩:=name1_ok 116 (by decide) (by decide)
theorem isname_c:IsName ⟨#[99]⟩:=name1_ok 99 (by decide) (by decide)
theorem ex_psch (h:Hd) (c p:Nat) :PSch ⟨h,[exTab c p]⟩:=by
 refine⟨by show 0<1;decide,by show 1≤6;decide,fun t ht=> ?_,fi_names (nm:=Tab.name) (fun _ _=>rfl) (by simp)⟩
 rw [List.mem_singleton.1 ht];refine⟨_,_,_,_,rfl,isname_t,by show 0<2;decide,by show 2≤8;decide,fun k hk=> ?_,fun k hk=> ?_,fun k hk=> ?_,fi_names (nm:=Col.name) (fun _ _=>rfl) (by decide)⟩
 all_goals
  rcases List.mem_cons.1 hk with rfl|hk
  ·first|exact isname_k|exact .inl rfl|rfl
  ·obtain rfl:=List.mem_singleton.1 hk
   first|exact isname_c|exact .inl rfl|rfl
theorem ex_right {h:Hd} {c p vars:Nat} {q:Cj V} (hv:vars≤16) (h1:0<q.lits.length) (h8:q.lits.length≤8) (hh:0<q.head.length) (h24:q.head.length≤24) (hl: ∀l∈q.lits,∃x y,l= (0,[.v x,.v y])∧x<vars∧y<vars) (ho: ∀n,n<vars→Occ q n) (hd: ∀t∈q.head,∃x,t = .v x∧x<vars) :Right (colT ⟨h,[exTab c p]⟩) vars q (fun _=>1):=by
 refine⟨h1,h8,hv,hh,h24,fun l hl2=> ?_,ho,fun t ht=> ?_⟩
 ·obtain⟨x,y,rfl,hx,hy⟩:=hl l hl2
  refine⟨[1,1],rfl,rfl,fun i t c ht hc=> ?_⟩
  have hi:i<2:=by
   have:=(List.getElem?_eq_some_iff.1 ht).1;exact this
  have hc1:c=1:=by
   have:i=0∨i=1:=by omega
   rcases this with rfl|rfl<;>(injection hc with hc;exact hc.symm)
  have:i=0∨i=1:=by omega
  rcases this with rfl|rfl
  ·injection ht with ht
   rw [←ht];exact⟨hx,hc1.symm⟩
  ·injection ht with ht
   rw [←ht];exact⟨hy,hc1.symm⟩
 ·obtain⟨x,rfl,hx⟩:=hd t ht
  exact hx
theorem exA_right (h:Hd) (c p:Nat) :Right (colT ⟨h,[exTab c p]⟩) 3 exA (fun _=>1):=by
 refine ex_right (by decide) (by decide) (by decide) (by decide) (by decide) (fun l hl=> ?_) (fun n hn=> ?_) (fun t ht=>⟨0,List.mem_singleton.1 ht,by decide⟩)
 ·rcases List.mem_cons.1 hl with rfl|hl
  ·exact⟨0,1,rfl,by decide,by decide⟩
  ·exact⟨0,2,List.mem_singleton.1 hl,by decide,by decide⟩
 ·have:n=0∨n=1∨n=2:=by omega
  rcases this with rfl|rfl|rfl
  ·exact⟨_,List.mem_cons_self,List.mem_cons_self⟩
  ·exact⟨_,List.mem_cons_self,List.mem_cons_of_mem _ List.mem_cons_self⟩
  ·exact⟨_,List.mem_cons_of_mem _ List.mem_cons_self,List.mem_cons_of_mem _ List.mem_cons_self⟩
theorem exB_right (h:Hd) (c p:Nat) :Right (colT ⟨h,[exTab c p]⟩) 2 exB (fun _=>1):=by
 refine ex_right (by decide) (by decide) (by decide) (by decide) (by decide) (fun l hl=>⟨0,1,List.mem_singleton.1 hl,by decide,by decide⟩) (fun n hn=> ?_) (fun t ht=>⟨0,List.mem_singleton.1 ht,by decide⟩)
 have:n=0∨n=1:=by omega
 rcases this with rfl|rfl
 ·exact⟨_,List.mem_cons_self,List.mem_cons_self⟩
 ·exact⟨_,List.mem_cons_self,List.mem_cons_of_mem _ List.mem_cons_self⟩
def TwoPost (w:World) (e:Ending) (w':World) :Prop:=∃(s:Sch) (a b:Cq),e = .returned (.tuple #[.agg #[.slice s.th.ao s.tabs.length s.th.cap],.agg #[.int .i64 (a.vars:Nat),.slice a.lh.ao a.lits.length a.lh.cap,.slice a.head.h.ao a.head.l.length a.head.h.cap],.agg #[.int .i64 (b.vars:Nat),.slice b.lh.ao b.lits.length b.lh.cap,.slice b.head.h.ao b.head.l.length b.head.h.cap]])∧s.In w'∧PSch s∧RightQ w' (colT s) a w.heap.size∧RightQ w' (colT s) b w.heap.size∧a.cj=exA∧b.cj=exB∧a.vars=3∧b.vars=2∧Below w.heap.size w w'
theorem tl_box {x:World} {B g:Nat} {l:List (Tm V)} (h:Box x g (l.flatMap Tm.cells).toArray 83) (hl:l.length≤1000) (hw: ∀t∈l,t.wf) (hg:B≤g) :TL.In x B ⟨⟨some ⟨g,0,none⟩,l.length⟩,l⟩:=⟨row_box Tm.cells_len h (by unfold maxLen;omega),hw,fun _=>hg⟩
theorem li_box {x:World} {b:Nat} {xs:List Li} (h:Box x b (xs.flatMap Li.cells).toArray 56) (hl:xs.length≤1000) :Row x 2 Li.cells ⟨some ⟨b,0,none⟩,xs.length⟩ xs:=row_box (fun _=>rfl) h (by unfold maxLen;omega)
theorem two_any (w:World) :Calls Tryz.prog 51 #[] w (TwoPost w):=by
 go_enter Tryz.func51,Tryz.ntmps51;go_upto_region 4 with(first
  | (have hx8:=HZ7.o;clear hx8;go_at_call 90;refine(v_any 0 _).mono ?_;rintro e z8 ⟨rfl,hz⟩;have HZ8:=ai hz;clear hz)
  | (have hx7:=HZ6.o;clear hx7;go_at_call 90;refine(v_any 1 _).mono ?_;rintro e z7 ⟨rfl,hz⟩;have HZ7:=ai hz;clear hz)
  | (have hx6:=HZ5.o;clear hx6;go_at_call 90;refine(v_any 0 _).mono ?_;rintro e z6 ⟨rfl,hz⟩;have HZ6:=ai hz;clear hz)
  | (have hx5:=HZ4.o;clear hx5;go_at_call 90;refine(v_any 0 _).mono ?_;rintro e z5 ⟨rfl,hz⟩;have HZ5:=ai hz;clear hz)
  | (have hx4:=HZ3.o;clear hx4;go_at_call 90;refine(v_any 2 _).mono ?_;rintro e z4 ⟨rfl,hz⟩;have HZ4:=ai hz;clear hz)
  | (have hx3:=HZ2.o;clear hx3;go_at_call 90;refine(v_any 0 _).mono ?_;rintro e z3 ⟨rfl,hz⟩;have HZ3:=ai hz;clear hz)
  | (have hx2:=HZ1.o;clear hx2;go_at_call 90;refine(v_any 1 _).mono ?_;rintro e z2 ⟨rfl,hz⟩;have HZ2:=ai hz;clear hz)
  | (go_at_call 90;refine(v_any 0 _).mono ?_;rintro e z1 ⟨rfl,hz⟩;have HZ1:=ai hz;clear hz))
 obtain⟨W,hW⟩ : ∃W,(z8.alloc (.cells #[.int .i64 0,.int .i64 0,.int .i64 0,.string ⟨#[]⟩] 83)).alloc (.cells #[.int .i64 2,.slice (some ⟨z7.heap.size+1,0,none⟩) 1 1,.slice (some ⟨z8.heap.size,0,none⟩) 1 1] 32) =W:=⟨_,rfl⟩;rw [hW];have hWB:Below ((z8.alloc (.cells #[.int .i64 0,.int .i64 0,.int .i64 0,.string ⟨#[]⟩] 83)).alloc (.cells #[.int .i64 2,.slice (some ⟨z7.heap.size+1,0,none⟩) 1 1,.slice (some ⟨z8.heap.size,0,none⟩) 1 1] 32)).heap.size ((z8.alloc (.cells #[.int .i64 0,.int .i64 0,.int .i64 0,.string ⟨#[]⟩] 83)).alloc (.cells #[.int .i64 2,.slice (some ⟨z7.heap.size+1,0,none⟩) 1 1,.slice (some ⟨z8.heap.size,0,none⟩) 1 1] 32)) W:=by rw [←hW];exact Below.refl _ _
 clear hW;obtain⟨p1,p2,p3,p4,p5,p6,b1⟩:=al6 HZ1.o;have b2:=HZ2.o;obtain⟨q1,b3⟩:=al1 HZ3.o;have b4:=HZ4.o;obtain⟨q2,q3,b5⟩:=al2 HZ5.o;obtain⟨q4,q5,b6⟩:=al2 HZ6.o;have b7:=HZ7.o;obtain⟨q6,q7,b8⟩:=al2 HZ8.o;obtain⟨q8,q9,b9⟩:=al2 hWB;clear hWB HZ1 HZ2 HZ3 HZ4 HZ5 HZ6 HZ7 HZ8;have c8:=b9;have c7:=bT b8 c8;have c6:=bT b7 c7;have c5:=bT b6 c6;have c4:=bT b5 c5;have c3:=bT b4 c4;have c2:=bT b3 c3;have c1:=bT b2 c2;have c0:=bT b1 c1;have P1:=ai (p1.below c1);have P2:=ai (p2.below c1);have P3:=ai (p3.below c1);have P4:=ai (p4.below c1);have P5:=ai (p5.below c1);have P6:=ai (p6.below c1);have Q1:=ai (q1.below c3);have Q2:=ai (q2.below c5);have Q3:=ai (q3.below c5);have Q4:=ai (q4.below c6);have Q5:=ai (q5.below c6);have Q6:=ai (q6.below c8);have Q7:=ai (q7.below c8);have Q8:=ai q8;have Q9:=ai q9;have C0:=ai c0;have hs1:w.heap.size+1+1+1+1+1<z1.heap.size:=p6.lt;have hs2:=b2.size;have hs3:=b3.size;have hs4:=b4.size;have hs5:=b5.size;have hs6:=b6.size;have hs7:=b7.size;have hs8:=b8.size;have hs9:z8.heap.size+1<W.heap.size:=q9.lt;clear p1 p2 p3 p4 p5 p6 q1 q2 q3 q4 q5 q6 q7 q8 q9 b1 b2 b3 b4 b5 b6 b7 b8 b9 c0 c1 c2 c3 c4 c5 c6 c7 c8;refine tw_reg4 (w:=w) (W:=W) (t3:=w.heap.size+1+1+1+1+1) (t4:=z5.heap.size+1) (t5:=z8.heap.size+1) (cb0:=w.heap.size+1+1+1) (pb0:=w.heap.size+1+1+1+1) (p1:=z4.heap.size+1) (p2:=2) (p3:=z5.heap.size) (r1:=z7.heap.size+1) (r2:=1) (r3:=z8.heap.size) (nm:=⟨#[116]⟩) (p0:=3) (r0:=2) (by omega) P6 Q5 Q9 (by omega) (by omega) (by omega) (ai ⟨C0.o.drew,fun _ _ _=>rfl,rfl,fun e=>(by cases e),P1.o,P2.o,P3.o⟩) ?hc ?hend
 case hc=>rfl
 case hend=>
  intro x hx;have HX:=ai hx;have r0:x.cell? ⟨w.heap.size,0,none⟩ =some (.slice (some ⟨W.heap.size,0,none⟩) 1 1):=hx.s0.cell rfl;have r1:x.cell? ⟨w.heap.size+1,0,none⟩ =some (.int .i64 3):=hx.s1.cell rfl;have r2:x.cell? ⟨w.heap.size+1,1,none⟩ =some (.slice (some ⟨z4.heap.size+1,0,none⟩) 2 2):=hx.s1.cell rfl;have r3:x.cell? ⟨w.heap.size+1,2,none⟩ =some (.slice (some ⟨z5.heap.size,0,none⟩) 1 1):=hx.s1.cell rfl;have r4:x.cell? ⟨w.heap.size+1+1,0,none⟩ =some (.int .i64 2):=hx.s2.cell rfl;have r5:x.cell? ⟨w.heap.size+1+1,1,none⟩ =some (.slice (some ⟨z7.heap.size+1,0,none⟩) 1 1):=hx.s2.cell rfl;have r6:x.cell? ⟨w.heap.size+1+1,2,none⟩ =some (.slice (some ⟨z8.heap.size,0,none⟩) 1 1):=hx.s2.cell rfl;clear hx;go_wp2;refine bodyPost_ret (v:=.tuple #[.agg #[.slice (some ⟨W.heap.size,0,none⟩) 1 1],.agg #[.int .i64 3,.slice (some ⟨z4.heap.size+1,0,none⟩) 2 2,.slice (some ⟨z5.heap.size,0,none⟩) 1 1],.agg #[.int .i64 2,.slice (some ⟨z7.heap.size+1,0,none⟩) 1 1,.slice (some ⟨z8.heap.size,0,none⟩) 1 1]]) ?_ ?_ ?_
  case refine_3=>
   have hT:=HX.o.bt rfl;have hC:=HX.o.box P4.o (by omega)
   have hP:=HX.o.box P5.o (by omega)
   refine⟨⟨⟨some ⟨W.heap.size,0,none⟩,1⟩,[exTab (w.heap.size+1+1+1) (w.heap.size+1+1+1+1)]⟩,⟨3,⟨some ⟨z4.heap.size+1,0,none⟩,2⟩,[⟨0,⟨⟨some ⟨z2.heap.size,0,none⟩,2⟩,[.v 0,.v 1]⟩⟩,⟨0,⟨⟨some ⟨z4.heap.size,0,none⟩,2⟩,[.v 0,.v 2]⟩⟩],⟨⟨some ⟨z5.heap.size,0,none⟩,1⟩,[.v 0]⟩⟩,⟨2,⟨some ⟨z7.heap.size+1,0,none⟩,1⟩,[⟨0,⟨⟨some ⟨z7.heap.size,0,none⟩,2⟩,[.v 0,.v 1]⟩⟩],⟨⟨some ⟨z8.heap.size,0,none⟩,1⟩,[.v 0]⟩⟩,rfl,?_,ex_psch _ _ _,?_,?_,rfl,rfl,rfl,rfl,HX.o.bel⟩
   ·refine⟨row_box (xs:= [exTab (w.heap.size+1+1+1) (w.heap.size+1+1+1+1)]) (fun _=>rfl) hT (by show 1≤maxLen;decide),fun t ht=> ?_⟩
    rw [List.mem_singleton.1 ht];refine⟨by show 1≤maxLen;decide,row_box (xs:=([⟨⟨#[107]⟩,1,false⟩,⟨⟨#[99]⟩,1,false⟩] :List Col)) (fun _=>rfl) hC (by show 2≤maxLen;decide),fun c hc=> ?_,il_box (xs:= [0]) hP (by decide) (fun n hn=>by rw [List.mem_singleton.1 hn];constructor<;>decide),Row.nil _ _ _,fun _ h=>absurd h List.not_mem_nil,Row.nil _ _ _,fun _ h=>absurd h List.not_mem_nil,Row.nil _ _ _,fun _ h=>absurd h List.not_mem_nil⟩
    rcases List.mem_cons.1 hc with rfl|hc
    ·exact⟨by show 1≤maxLen;decide,by show int64 1;constructor<;>decide⟩
    ·rw [List.mem_singleton.1 hc]
     exact⟨by show 1≤maxLen;decide,by show int64 1;constructor<;>decide⟩
   ·have h01: ∀x y:Nat,x≤1000→y≤1000→∀t∈([.v x,.v y] :List (Tm V)),t.wf:=fun x y hx hy t ht=>by
     rcases List.mem_cons.1 ht with rfl|ht
     ·exact hx
     ·rw [List.mem_singleton.1 ht];exact hy
    have hA1:=tl_box (B:=w.heap.size) (l:= [.v 0,.v 1]) (HX.o.box Q1.o (by omega)) (by decide) (h01 0 1 (by decide) (by decide)) (by omega)
    have hA2:=tl_box (B:=w.heap.size) (l:= [.v 0,.v 2]) (HX.o.box Q2.o (by omega)) (by decide) (h01 0 2 (by decide) (by decide)) (by omega)
    refine⟨⟨li_box (xs:= [⟨0,⟨⟨some ⟨z2.heap.size,0,none⟩,2⟩,[.v 0,.v 1]⟩⟩,⟨0,⟨⟨some ⟨z4.heap.size,0,none⟩,2⟩,[.v 0,.v 2]⟩⟩]) (HX.o.box Q3.o (by omega)) (by show 2≤1000;decide),fun _=>by show w.heap.size≤z4.heap.size+1;omega,fun l hl=> ?_,fun l hl=> ?_,tl_box (l:= [.v 0]) (HX.o.box Q4.o (by omega)) (by decide) (fun t ht=>by rw [List.mem_singleton.1 ht];show 0≤1000;decide) (by omega),by show 3≤1000;decide⟩,⟨_,exA_right _ _ _⟩,fun ty hty=>by rw [List.mem_singleton.1 hty];show 2≤1000;decide⟩
    ·rcases List.mem_cons.1 hl with rfl|hl
     ·exact hA1
     ·rw [List.mem_singleton.1 hl];exact hA2
    ·rcases List.mem_cons.1 hl with rfl|hl
     ·show 0≤1000;decide
     ·rw [List.mem_singleton.1 hl];show 0≤1000;decide
   ·have hB1:=tl_box (B:=w.heap.size) (l:= [.v 0,.v 1]) (HX.o.box Q6.o (by omega)) (by decide) (fun t ht=>by
     rcases List.mem_cons.1 ht with rfl|ht
     ·show 0≤1000;decide
     ·rw [List.mem_singleton.1 ht];show 1≤1000;decide) (by omega)
    refine⟨⟨li_box (xs:= [⟨0,⟨⟨some ⟨z7.heap.size,0,none⟩,2⟩,[.v 0,.v 1]⟩⟩]) (HX.o.box Q7.o (by omega)) (by show 1≤1000;decide),fun _=>by show w.heap.size≤z7.heap.size+1;omega,fun l hl=>by rw [List.mem_singleton.1 hl];exact hB1,fun l hl=>by rw [List.mem_singleton.1 hl];show 0≤1000;decide,tl_box (l:= [.v 0]) (HX.o.box Q8.o (by omega)) (by decide) (fun t ht=>by rw [List.mem_singleton.1 ht];show 0≤1000;decide) (by omega),by show 2≤1000;decide⟩,⟨_,exB_right _ _ _⟩,fun ty hty=>by rw [List.mem_singleton.1 hty];show 2≤1000;decide⟩
  case refine_2=>rfl
  simp [results,Tryz.results51,go_sem,r0,r1,r2,r3,r4,r5,r6]
end Go.Proofs.YtiijaaohphokcaaGreatDoor
/- law27.awake: its walk. -/
namespace Go.Proofs.YtiijaaohphokcaaGreatDoor
open Go.RowKit
theorem ex_ba:Hom exB exA:=⟨fun x=>.v x,rfl,fun l hl=>by rw [List.mem_singleton.1 hl];exact List.mem_cons_self⟩
theorem ex_ab:Hom exA exB:=⟨fun x=>.v (if x=0 then 0 else 1),rfl,fun l hl=>by
 rcases List.mem_cons.1 hl with rfl|hl
 ·exact List.mem_cons_self
 ·rw [List.mem_singleton.1 hl];exact List.mem_cons_self⟩
def exD:Cj V:=⟨[(0,[.v 0,.v 2])],[.v 0]⟩
theorem ex_rem0:Rem exA 0:=⟨⟨fun x hx=>⟨(0,[.v 0,.v 2]),List.mem_cons_self,by
  have hx:Tm.v x∈([.v 0] :List (Tm V)):=hx;rw [List.mem_singleton.1 hx];exact List.mem_cons_self⟩,by show 0<1;decide⟩,⟨fun x=>.v (if x=0 then 0 else 2),rfl,fun l hl=>by
 rcases List.mem_cons.1 hl with rfl|hl
 ·exact List.mem_cons_self
 ·rw [List.mem_singleton.1 hl];exact List.mem_cons_self⟩⟩
theorem ex_rem1: ¬Rem exD 0:=fun h=>absurd h.1.2 (by show¬(0<0);decide)
theorem psch_pos {s:Sch} (h:PSch s) : ∀ty∈colT s,0<ty.length:=fun ty hty=>by
 obtain⟨t,ht,rfl⟩:=List.mem_map.1 hty;obtain⟨nm,ch,cols,ph,rfl,_,hp⟩:=h.pl t ht
 show 0< (List.map Col.typ cols).length
 rw [List.length_map];exact hp.1
open Classical in
theorem ex_core:exA.core=exB∧exA.core.occ.length=2:=by
 have h:exA.core=exB:=by
  unfold Cj.core
  have e1:coreL exA.lits.length exA 0=exD:=by
   show coreL 2 exA 0=exD
   unfold coreL
   rw [if_pos (by show 0<2;decide),if_pos ex_rem0]
   show coreL 1 exD 0=exD
   unfold coreL
   rw [if_pos (by show 0<1;decide),if_neg ex_rem1]
   rfl
  rw [e1]
  rfl
 exact⟨h,by rw [h];rfl⟩
theorem awake_any (w:World) (hsh:w.ShapedOpen Tryz.prog) :Calls Tryz.prog 16 #[] w fun e w'=>e = .returned (.bool true)∧Below w.heap.size w w':=by
 have HSH:=ai hsh;clear hsh
 go_enter Tryz.func16,Tryz.ntmps16;go_upto_region 2 with(go_at_call 51;refine(two_any _).mono ?_;rintro e x1 ⟨s,a,b,rfl,h⟩;have H:=ai h;clear h)
 obtain⟨X,hX⟩ : ∃X,((x1.alloc (.cells #[.slice s.th.ao s.tabs.length s.th.cap] 27)).alloc (.cells #[.int .i64 (a.vars:Nat),.slice a.lh.ao a.lits.length a.lh.cap,.slice a.head.h.ao a.head.l.length a.head.h.cap] 32)).alloc (.cells #[.int .i64 (b.vars:Nat),.slice b.lh.ao b.lits.length b.lh.cap,.slice b.head.h.ao b.head.l.length b.head.h.cap] 32) =X:=⟨_,rfl⟩;have hbx:=show Below x1.heap.size x1 X from by rw [←hX];exact bel3 (Below.refl _ _)
 have hbs:=boxes3X hX;rw [hX];clear hX;obtain⟨h1,h2,h3,h4,h5,h6,h7,h8,h9⟩:=H.o;clear H;have BS:=ai hbs.1;have Ba:=ai hbs.2.1;have Bb:=ai hbs.2.2;have HW:=ai (bT h9 hbx);have HXX:=ai (Below.refl X.heap.size X);have hsX:=ShX HSH.o HW.o;have ra:=h3.mono hbx;have rb:=h4.mono hbx;have fa:=fine_of (h1.mono hbx) h2 ra hsX;have fb:=fine_of (h1.mono hbx) h2 rb hsX;have RB:=ai rb;have hty: ∀ty∈colT s,0<ty.length:=psch_pos h2;have HC1:=ai (show∀Y,Below X.heap.size X Y→Calls Tryz.prog 13 #[.agg #[.slice s.th.ao s.tabs.length s.th.cap],.agg #[.int .i64 (a.vars:Nat),.slice a.lh.ao a.lits.length a.lh.cap,.slice a.head.h.ao a.head.l.length a.head.h.cap],.agg #[.int .i64 (b.vars:Nat),.slice b.lh.ao b.lits.length b.lh.cap,.slice b.head.h.ao b.head.l.length b.head.h.cap]] Y fun e w'=>e = .returned (.tuple #[.bool true,.int .i64 0])∧Below Y.heap.size Y w' from fun Y hY=>(contains_any s _ a b _ _ Y (fa.mono hY) (fb.mono hY) (ra.mono hY) (rb.mono hY)).mono (by rintro e w' ⟨c,rfl,hc,hb⟩;rw [hc.2 (by rw [h5,h6];exact ex_ba)];exact⟨rfl,hb⟩))
 have HC2:=ai (show∀Y,Below X.heap.size X Y→Calls Tryz.prog 13 #[.agg #[.slice s.th.ao s.tabs.length s.th.cap],.agg #[.int .i64 (b.vars:Nat),.slice b.lh.ao b.lits.length b.lh.cap,.slice b.head.h.ao b.head.l.length b.head.h.cap],.agg #[.int .i64 (a.vars:Nat),.slice a.lh.ao a.lits.length a.lh.cap,.slice a.head.h.ao a.head.l.length a.head.h.cap]] Y fun e w'=>e = .returned (.tuple #[.bool true,.int .i64 0])∧Below Y.heap.size Y w' from fun Y hY=>(contains_any s _ b a _ _ Y (fb.mono hY) (fa.mono hY) (rb.mono hY) (ra.mono hY)).mono (by rintro e w' ⟨c,rfl,hc,hb⟩;rw [hc.2 (by rw [h5,h6];exact ex_ab)];exact⟨rfl,hb⟩))
 have HAL:=ai (show∀Y,Below X.heap.size X Y→Calls Tryz.prog 15 #[.agg #[.slice s.th.ao s.tabs.length s.th.cap],.agg #[.int .i64 (a.vars:Nat),.slice a.lh.ao a.lits.length a.lh.cap,.slice a.head.h.ao a.head.l.length a.head.h.cap],.agg #[.int .i64 (b.vars:Nat),.slice b.lh.ao b.lits.length b.lh.cap,.slice b.head.h.ao b.head.l.length b.head.h.cap]] Y fun e w'=>e = .returned (.tuple #[.bool false,.int .i64 0])∧Below Y.heap.size Y w' from fun Y hY=>(alike_any s _ a b _ _ Y (fa.mono hY) (fb.mono hY) (ra.mono hY) (rb.mono hY)).mono (by
  rintro e w' ⟨c,rfl,hc,hb⟩
  cases c with
  | true=>exact absurd (hc.1 rfl).1 (by rw [h7,h8];decide)
  | false=>exact⟨rfl,hb⟩))
 have HCO:=ai (show∀Y,Below X.heap.size X Y→Calls Tryz.prog 12 #[.agg #[.slice s.th.ao s.tabs.length s.th.cap],.agg #[.int .i64 (a.vars:Nat),.slice a.lh.ao a.lits.length a.lh.cap,.slice a.head.h.ao a.head.l.length a.head.h.cap]] Y fun e w'=>∃r:Cq,e = .returned (.tuple #[.agg #[.int .i64 (r.vars:Nat),.slice r.lh.ao r.lits.length r.lh.cap,.slice r.head.h.ao r.head.l.length r.head.h.cap],.int .i64 0])∧r.In w' Y.heap.size∧r.cj=b.cj∧r.vars=b.vars∧Below Y.heap.size Y w' from fun Y hY=>(core_any s _ a _ Y (fa.mono hY) (ra.mono hY) hty).mono (by
  rintro e w' ⟨r,rfl,g1,g2,g3,hb⟩;exact⟨r,rfl,g1,by rw [g2,h5,h6];exact ex_core.1,by rw [g3,h5,h8];exact ex_core.2,hb⟩))
 have s0:=(BS.o.below HXX.o).cell (j:=0) rfl
 have a0:=(Ba.o.below HXX.o).cell (j:=0) rfl
 have a1:=(Ba.o.below HXX.o).cell (j:=1) rfl
 have a2:=(Ba.o.below HXX.o).cell (j:=2) rfl
 have b0:=(Bb.o.below HXX.o).cell (j:=0) rfl
 have b1:=(Bb.o.below HXX.o).cell (j:=1) rfl
 have b2:=(Bb.o.below HXX.o).cell (j:=2) rfl
 clear fa fb ra rb hty hsX h1 h2 h3 h4 h5 h6 h7 h8 h9 hbx hbs HSH;go_upto_region 6 with(first
  | (have hq:=Hy3;clear hq;go_at_call 12;with_reducible refine(HCO.o _ Hy3.o).mono ?_;rintro e y4 ⟨r,rfl,hr1,hr2,hr3,hb⟩;have Hy4:=ai (bT Hy3.o hb);have HR:=ai (And.intro hr1 (And.intro hr2 hr3));clear hb hr1 hr2 hr3 Hy3)
  | (have hq:=Hy2;clear hq;go_at_call 15;with_reducible refine(HAL.o _ Hy2.o).mono ?_;rintro e y3 ⟨rfl,hb⟩;have Hy3:=ai (bT Hy2.o hb);clear hb;clear s0 a0 a1 a2 b0 b1 b2;have s0:=(BS.o.below Hy3.o).cell (j:=0) rfl;have a0:=(Ba.o.below Hy3.o).cell (j:=0) rfl;have a1:=(Ba.o.below Hy3.o).cell (j:=1) rfl;have a2:=(Ba.o.below Hy3.o).cell (j:=2) rfl;have b0:=(Bb.o.below Hy3.o).cell (j:=0) rfl;have b1:=(Bb.o.below Hy3.o).cell (j:=1) rfl;have b2:=(Bb.o.below Hy3.o).cell (j:=2) rfl)
  | (have hq:=Hy1;clear hq;go_at_call 13;with_reducible refine(HC2.o _ Hy1.o).mono ?_;rintro e y2 ⟨rfl,hb⟩;have Hy2:=ai (bT Hy1.o hb);clear hb;clear s0 a0 a1 a2 b0 b1 b2;have s0:=(BS.o.below Hy2.o).cell (j:=0) rfl;have a0:=(Ba.o.below Hy2.o).cell (j:=0) rfl;have a1:=(Ba.o.below Hy2.o).cell (j:=1) rfl;have a2:=(Ba.o.below Hy2.o).cell (j:=2) rfl;have b0:=(Bb.o.below Hy2.o).cell (j:=0) rfl;have b1:=(Bb.o.below Hy2.o).cell (j:=1) rfl;have b2:=(Bb.o.below Hy2.o).cell (j:=2) rfl)
  | (go_at_call 13;with_reducible refine(HC1.o _ HXX.o).mono ?_;rintro e y1 ⟨rfl,hb⟩;have Hy1:=ai (bT HXX.o hb);clear hb;clear s0 a0 a1 a2 b0 b1 b2;have s0:=(BS.o.below Hy1.o).cell (j:=0) rfl;have a0:=(Ba.o.below Hy1.o).cell (j:=0) rfl;have a1:=(Ba.o.below Hy1.o).cell (j:=1) rfl;have a2:=(Ba.o.below Hy1.o).cell (j:=2) rfl;have b0:=(Bb.o.below Hy1.o).cell (j:=0) rfl;have b1:=(Bb.o.below Hy1.o).cell (j:=1) rfl;have b2:=(Bb.o.below Hy1.o).cell (j:=2) rfl))
 obtain⟨Z,hZ⟩ : ∃Z,y4.alloc (.cells #[.int .i64 (r.vars:Nat),.slice r.lh.ao r.lits.length r.lh.cap,.slice r.head.h.ao r.head.l.length r.head.h.cap] 32) =Z:=⟨_,rfl⟩;have hbz:=show Below y4.heap.size y4 Z from by rw [←hZ];exact belA _
 have hbr:=show Box Z y4.heap.size #[.int .i64 (r.vars:Nat),.slice r.lh.ao r.lits.length r.lh.cap,.slice r.head.h.ao r.head.l.length r.head.h.cap] 32 from by rw [←hZ];exact Box.new _ _ _
 rw [hZ];clear hZ;have HZ:=ai (bT Hy4.o hbz);obtain⟨hr1,hr2,hr3⟩:=HR.o;have HRS:=ai (rsame_yes r b _ _ Z (hr1.mono hbz) (RB.o.mono HZ.o).qi hr3 hr2);clear s0 a0 a1 a2 b0 b1 b2 hr1 hr2 hr3 HR hbz;have r0:=hbr.cell (j:=0) rfl
 have r1:=hbr.cell (j:=1) rfl
 have r2:=hbr.cell (j:=2) rfl
 have b0:=(Bb.o.below HZ.o).cell (j:=0) rfl
 have b1:=(Bb.o.below HZ.o).cell (j:=1) rfl
 have b2:=(Bb.o.below HZ.o).cell (j:=2) rfl
 clear hbr;go_wp2_with (go_at_call 14;with_reducible refine HRS.o.mono ?_;rintro e y5 ⟨rfl,hb⟩;have H5:=ai (bT HZ.o hb);clear hb)
 go_ret
 exact⟨rfl,bT HW.o H5.o⟩
end Go.Proofs.YtiijaaohphokcaaGreatDoor
/- law27.ConjunctiveCore: what is held on the way; its region that draws its order. -/
namespace Go.Proofs.YtiijaaohphokcaaGreatDoor
open Go.RowKit
theorem Box.cell_eq {w:World} {g:Nat} {cs:Array Value} {T:TypeId} (h:Box w g cs T) (j:Nat) :w.cell? ⟨g,j,none⟩ =cs[j]? :=cell_of_row w g j cs T (0,0) h
theorem slots_off {x:World} {g:Nat} {q0:Cq} {T:TypeId} {l:List (Tm V)} {h:Hd} (hb:Box x g (qcells q0) T) (hr:Row x 4 Tm.cells h l) (hp:0<l.length) :h.b≠g:=by
 intro e;have h1:=(tm_at hr hp).2.2.2;rw [e,hb.cell_eq]at h1;have h2:=(Array.getElem?_eq_some_iff.1 h1).1;have h3:h.o+0*4+3<3:=h2;omega
theorem lits_off {x:World} {g:Nat} {q0:Cq} {T:TypeId} {ls:List Li} {h:Hd} (hb:Box x g (qcells q0) T) (h0:Row x 2 Li.cells q0.lh q0.lits) (hp0:0<q0.lits.length) (hr:Row x 2 Li.cells h ls) (hp:0<ls.length) (hs:Row x 4 Tm.cells ls[0].sl.h ls[0].sl.l) :h.b≠g:=by
 intro e;obtain⟨h1,h2⟩:=li_at hr hp;rw [e,hb.cell_eq]at h1 h2;have ho:h.o=0:=by
  have h3:=(Array.getElem?_eq_some_iff.1 h2).1;have h3:h.o+0*2+1<3:=h3;have:h.o=0∨h.o=1:=by omega
  rcases this with h4|h4
  ·exact h4
  ·rw [h4]at h1
   have h5: (some (Value.slice q0.lh.ao q0.lits.length q0.lh.cap)) =some (.int .i64 (ls[0].tab:Nat)):=h1
   cases h5
 rw [ho]at h2;have h5: (some (Value.slice q0.lh.ao q0.lits.length q0.lh.cap)) =some (.slice ls[0].sl.h.ao ls[0].sl.l.length ls[0].sl.h.cap):=h2;injection h5 with h5;injection h5 with e1 e2 _;have hp3:0<ls[0].sl.l.length:=by omega
 have k1:=(li_at h0 hp0).2;have k2:=(tm_at hs hp3).2.1;have eb:q0.lh.b=ls[0].sl.h.b:=by unfold Hd.b;rw [e1]
 have eo:q0.lh.o=ls[0].sl.h.o:=by unfold Hd.o;rw [e1]
 rw [eb,eo]at k1;have k3: (some (Value.slice q0.lits[0].sl.h.ao q0.lits[0].sl.l.length q0.lits[0].sl.h.cap)) =some (.int .i64 ls[0].sl.l[0].val.kind):=k1.symm.trans k2
 cases k3
theorem RightQ.len {w:World} {T:List (List Int)} {q:Cq} {B:Nat} (h:RightQ w T q B) :0<q.lits.length∧0<q.head.l.length:=by
 obtain⟨τ,hr⟩:=h.ri;have h1:=hr.n1;have h2:=hr.h1;exact⟨by rwa [show q.cj.lits.length=q.lits.length from List.length_map _]at h1,h2⟩
theorem RightQ.le {w:World} {T:List (List Int)} {q:Cq} {B B':Nat} (h:RightQ w T q B) (hb:B'≤B) :RightQ w T q B':=⟨h.qi.le hb,h.ri,h.tl⟩
theorem RightQ.put {x y:World} {T:List (List Int)} {q q0:Cq} {B B0 g:Nat} {U:TypeId} (h:RightQ x T q B) (h0:RightQ x T q0 B0) (hb:Box x g (qcells q0) U) (hg:x.grownBy y (some g)) :RightQ y T q B:=by
 have hl:=h.len;refine⟨⟨row_grown h.qi.row hg (fun hp=>lits_off hb h0.qi.row h0.len.1 h.qi.row hp (h.qi.sl _ (List.getElem_mem hp)).row),h.qi.ge,fun l hl=> ?_,h.qi.tb,?_,h.qi.vr⟩,h.ri,h.tl⟩
 ·have k:=h.qi.sl l hl
  exact⟨row_grown k.row hg (fun hp=>slots_off hb k.row hp),k.wf,k.ge⟩
 ·have k:=h.qi.hd
  exact⟨row_grown k.row hg (fun hp=>slots_off hb k.row hp),k.wf,k.ge⟩
structure LC (w:World) (L:IL) (s:Sch) (w2:World) (qb a:Nat) (q:Cq) (x:World) :Prop where
 bel:Below w.heap.size w x
 tp:TapeIn x w.heap.size L a
 gr:w2.grownBy x (some w.heap.size)
 bs:Box x w2.heap.size #[.slice s.th.ao s.tabs.length s.th.cap] 27
 bq:Box x qb (qcells q) 32
 rq:RightQ x (colT s) q (w.heap.size+1)
 lo:w.heap.size<w2.heap.size
 qlo:w2.heap.size<qb
 ll:0<L.l.length→L.h.b<w2.heap.size
structure LG5 (w:World) (L:IL) (s:Sch) (w2:World) (qb a:Nat) (q:Cq) (bb:Bool) (x:World) :Prop where
 bel:Below w.heap.size w x
 tp:bb=false→TapeIn x w.heap.size L a
 gr:w2.grownBy x (some w.heap.size)
 bs:Box x w2.heap.size #[.slice s.th.ao s.tabs.length s.th.cap] 27
 bq:Box x qb (qcells q) 32
 rq:RightQ x (colT s) q (w.heap.size+1)
 lo:w.heap.size<w2.heap.size
 qlo:w2.heap.size<qb
 ll:0<L.l.length→L.h.b<w2.heap.size
section
variable {w w2 x y:World} {L:IL} {s:Sch} {qb a a2:Nat} {q r:Cq} {bb:Bool}
theorem bgrow {w x y:World} (h:Below w.heap.size w x) (hg:x.grownBy y (some w.heap.size)) :Below w.heap.size w y:=h.grown hg h.size (fun k hk=>by injection hk with hk;omega)
theorem LC.below (h:LC w L s w2 qb a q x) (hb:Below x.heap.size x y) :LC w L s w2 qb a q y:=
 ⟨bT h.bel hb,h.tp.mono hb,h.gr.andThen (only_below hb (some w.heap.size)) (fun j e=>.inr e),h.bs.below hb,h.bq.below hb,h.rq.mono hb,h.lo,h.qlo,h.ll⟩
theorem LC.turn (h:LC w L s w2 qb a q x) (hg:x.grownBy y (some w.heap.size)) (ht:TapeIn y w.heap.size L a2) :LC w L s w2 qb a2 q y:=by
 have h1:=h.lo;have h2:=h.qlo;exact⟨bgrow h.bel hg,ht,h.gr.andThen hg (fun j e=>.inr e),h.bs.grown hg (by intro e;injection e with e;omega),h.bq.grown hg (by intro e;injection e with e;omega),h.rq.grown hg (by omega),h.lo,h.qlo,h.ll⟩
theorem LC.start (h:LC w L s w2 qb a q x) :LG5 w L s w2 qb a q false x:=⟨h.bel,fun _=>h.tp,h.gr,h.bs,h.bq,h.rq,h.lo,h.qlo,h.ll⟩
theorem LG5.turn (h:LG5 w L s w2 qb a q bb x) (hg:x.grownBy y (some w.heap.size)) :LG5 w L s w2 qb a q true y:=by
 have h1:=h.lo;have h2:=h.qlo;exact⟨bgrow h.bel hg,fun e=>(by cases e),h.gr.andThen hg (fun j e=>.inr e),h.bs.grown hg (by intro e;injection e with e;omega),h.bq.grown hg (by intro e;injection e with e;omega),h.rq.grown hg (by omega),h.lo,h.qlo,h.ll⟩
theorem LG5.store (h:LG5 w L s w2 qb a q true x) (ht:TapeIn x w.heap.size L a2) (hr:RightQ x (colT s) r (w.heap.size+1)) :
  LC w L s w2 qb a2 r (((x.setCell ⟨qb,0,none⟩ (.int .i64 (r.vars:Nat))).setCell ⟨qb,1,none⟩ (.slice r.lh.ao r.lits.length r.lh.cap)).setCell ⟨qb,2,none⟩ (.slice r.head.h.ao r.head.l.length r.head.h.cap)):=by
 have h1:=h.lo;have h2:=h.qlo;have hg:=set3 x qb (.int .i64 (r.vars:Nat)) (.slice r.lh.ao r.lits.length r.lh.cap) (.slice r.head.h.ao r.head.l.length r.head.h.cap);have hb:=((h.bq.set 0 (.int .i64 (r.vars:Nat))).set 1 (.slice r.lh.ao r.lits.length r.lh.cap)).set 2 (.slice r.head.h.ao r.head.l.length r.head.h.cap);have hrq:=hr.put h.rq h.bq hg;have hbs:w2.heap.size<x.heap.size:=h.bs.lt;generalize ((x.setCell ⟨qb,0,none⟩ (.int .i64 (r.vars:Nat))).setCell ⟨qb,1,none⟩ (.slice r.lh.ao r.lits.length r.lh.cap)).setCell ⟨qb,2,none⟩ (.slice r.head.h.ao r.head.l.length r.head.h.cap) =y at *;have htl:=ht.lt;refine⟨h.bel.grown hg h.bel.size (fun k hk=>by injection hk with hk;omega),⟨?_,?_,?_,il_grown ht.row hg (fun hp=>by have:=h.ll hp;omega),ht.ne⟩,h.gr.andThen hg (fun j e=>.inl (by injection e with e;omega)),h.bs.grown hg (by intro e;injection e with e;omega),?_,hrq,h1,h2,h.ll⟩
 ·rw [hg.cell_far ⟨w.heap.size,0,none⟩ htl (fun e=>by have e:some w.heap.size=some qb:=e;injection e with e;omega)];exact ht.lst
 ·rw [hg.cell_far ⟨w.heap.size,1,none⟩ htl (fun e=>by have e:some w.heap.size=some qb:=e;injection e with e;omega)];exact ht.pos
 ·rw [hg.frozen_far ⟨w.heap.size,1,none⟩ htl (fun e=>by have e:some w.heap.size=some qb:=e;injection e with e;omega)];exact ht.fr
 ·simpa only [qcells,List.setIfInBounds_toArray,List.set_cons_zero,List.set_cons_succ]using hb
theorem LG5.hsi (h:LG5 w L s w2 qb a q bb x) (hs: ∀z,w2.grownBy z (some w.heap.size)→s.In z) : ∀z,x.grownBy z (some w.heap.size)→s.In z:=fun z hz=>hs z (h.gr.andThen hz (fun j e=>.inr e))
theorem LC.hsi (h:LC w L s w2 qb a q x) (hs: ∀z,w2.grownBy z (some w.heap.size)→s.In z) : ∀z,x.grownBy z (some w.heap.size)→s.In z:=fun z hz=>hs z (h.gr.andThen hz (fun j e=>.inr e))
theorem LG5.below (h:LG5 w L s w2 qb a q bb x) (hb:Below x.heap.size x y) :LG5 w L s w2 qb a q bb y:=
 ⟨bT h.bel hb,fun e=>(h.tp e).mono hb,h.gr.andThen (only_below hb (some w.heap.size)) (fun j e=>.inr e),h.bs.below hb,h.bq.below hb,h.rq.mono hb,h.lo,h.qlo,h.ll⟩
end
end Go.Proofs.YtiijaaohphokcaaGreatDoor

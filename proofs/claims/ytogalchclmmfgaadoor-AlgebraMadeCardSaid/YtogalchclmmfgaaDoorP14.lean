/- A part of the proof of AlgebraMade. -/
import Derived.Test.YtogalchclmmfgaaDoorP13
set_option maxRecDepth 100000
set_option maxHeartbeats 16000000
namespace Go.Proofs.YtogalchclmmfgaaDoor
open Go.RowKit
def ops2:List Int:= [24,25]
theorem ops2_at {j:Nat} (h:j<ops2.length) :ops2[j] =24+ (j:Int):=by
 have h2:j=0∨j=1:=by have:j<2:=h;omega
 rcases h2 with rfl|rfl<;>rfl
theorem expr_not {d:Int} (hd:2≤d∧d≤3) {n N:Nat} (hE:ExprAt n N (d - 1)) (w:World) (b a:Nat) (L r:IL) (k:Int) (hk:isT k=true) (ht:TapeIn w b L a) (ha:a+ (10+5*n)≤4611686018427370000) (hr:r.In w) (hrn:r.l.length≤1000) (hrb:0<r.l.length→r.h.b≠b) (m1:Int) (hm1:L.next a 4=m1) (m2:Int) (hm2:L.next (a+1) 4=m2) (m3:Int) (hm3:L.next (a+1+1) 3=m3) (m4:Int) (hm4:L.next (a+1+1+1) 6=m4) (h0:m1≠0) (h1:2≤m2) (hk0:k=2) (h3:m4=1) :
  Calls Tryd.prog 19 #[.pointer (some ⟨b,0,none⟩),.slice r.h.ao r.l.length r.h.cap,.int .i64 k,.int .i64 d] w fun e w'=>ExOut r.l k w w' b a (10+5*n) (1+4*N) L e:=by
 have hbl:=ht.lt;have hn:=hr.1.len;have HLW:=ai ht.low;have HK64:=ai hk;have HEE:=ai hE;have HBW:=ai (((belAA (w:=w) (.cells #[.pointer (some ⟨b,0,none⟩)] 23) (.cells #[.slice r.h.ao r.l.length r.h.cap] 22)).alloc (by simp only [World.size_alloc];omega) (.cells #[.int .i64 d] 3)).alloc (by simp only [World.size_alloc];omega) ZE)
 have B0:=ai ((((Box.new w #[.pointer (some ⟨b,0,none⟩)] 23).below (belA (.cells #[.slice r.h.ao r.l.length r.h.cap] 22))).below (belA (.cells #[.int .i64 d] 3))).below (belA ZE));have B1:=ai ((((Box.new (w.alloc (.cells #[.pointer (some ⟨b,0,none⟩)] 23)) #[.slice r.h.ao r.l.length r.h.cap] 22)).below (belA (.cells #[.int .i64 d] 3))).below (belA ZE));have B2:=ai (((Box.new ((w.alloc (.cells #[.pointer (some ⟨b,0,none⟩)] 23)).alloc (.cells #[.slice r.h.ao r.l.length r.h.cap] 22)) #[.int .i64 d] 3)).below (belA ZE));have B3:=ai (Box.new (((w.alloc (.cells #[.pointer (some ⟨b,0,none⟩)] 23)).alloc (.cells #[.slice r.h.ao r.l.length r.h.cap] 22)).alloc (.cells #[.int .i64 d] 3)) #[.int .i64 0,.int .i64 0,.int .i64 0,.string ⟨#[]⟩,.int .i64 0,.slice none 0 0] 45);simp only [World.size_alloc]at B0 B1 B2 B3;have HT0:=ai (ht.mono HBW.o);have HR0:=ai (hr.mono HBW.o);have hszW:=HBW.o.size;clear ht hr hk hE;have hw1:IntKind.i64.wrap (d - 1) =d - 1:=by
  have hc:d=2∨d=3:=by omega
  rcases hc with rfl|rfl<;>rfl
 have hd1: ¬d≤1:=by omega
 go_enter Tryd.func19,Tryd.ntmps19;go_upto_region 1 with(fail)
 have HSW:=ai (show((((w.alloc (.cells #[.pointer (some ⟨b,0,none⟩)] 23)).alloc (.cells #[.slice r.h.ao r.l.length r.h.cap] 22)).alloc (.cells #[.int .i64 d] 3)).alloc (.cells #[.int .i64 0,.int .i64 0,.int .i64 0,.string ⟨#[]⟩,.int .i64 0,.slice none 0 0] 45)).heap.size=w.heap.size+4 from by simp)
 generalize (((w.alloc (.cells #[.pointer (some ⟨b,0,none⟩)] 23)).alloc (.cells #[.slice r.h.ao r.l.length r.h.cap] 22)).alloc (.cells #[.int .i64 d] 3)).alloc (.cells #[.int .i64 0,.int .i64 0,.int .i64 0,.string ⟨#[]⟩,.int .i64 0,.slice none 0 0] 45) =W at *;have hws:W.heap.size=w.heap.size+4:=HSW.o;have HG0:=ai (World.grownBy.refl W (some b));have HWG:=ai (show w.grownBy W (some b)from only_below HBW.o _)
 have hmf: ∀(fn:Fn) (first cap:Array Value) (w:World),(Instr.makeFunc fn first cap).run Tryd.prog w = .ok (.func fn first cap) w:=fun _ _ _ _=>rfl
 have x0:=B0.o.cell (j:=0) rfl
 have x1:=B1.o.cell (j:=0) rfl
 have x2:=B2.o.cell (j:=0) rfl
 have hr1:=L.next_ok a (n:=4) (by decide)
 rw [hm1]at hr1;have HN1:=ai hm1;clear hm1;have hr2:=L.next_ok (a+1) (n:=4) (by decide)
 rw [hm2]at hr2;have HN2:=ai hm2;clear hm2;have hr3:=L.next_ok (a+1+1) (n:=3) (by decide)
 rw [hm3]at hr3;have HN3:=ai hm3;clear hm3;have hr4:=L.next_ok (a+1+1+1) (n:=6) (by decide)
 rw [hm4]at hr4;have HN4:=ai hm4;clear hm4;subst h3;subst hk0;have hm1_0: (m1 == 0) =false:=beq_eq_false_iff_ne.2 (by omega)
 have hm2_0: (m2 == 0) =false:=beq_eq_false_iff_ne.2 (by omega)
 have hm2_1: (m2 == 1) =false:=beq_eq_false_iff_ne.2 (by omega)
 have hx1:IntKind.i64.wrap (1+m3) =1+m3:=(by rw [IntKind.wrap_i64];omega)
 have hxt:isT (1+m3) =true:=decide_eq_true (by omega)
 go_upto_region 25 with(first
  | (go_at_call 10;refine(next_any _ b a L _ HT0.o (by omega) (by omega) ⟨by omega,by omega⟩).mono ?_;rintro e v1 ⟨rfl,htt,hgg⟩;rw [HN1.o];have HT1:=ai htt;have HG1:=ai (HG0.o.trans hgg);clear htt hgg;have y0_1:=(B0.o.grown HG1.o (by simp;omega)).cell (j:=0) rfl;have y1_1:=(B1.o.grown HG1.o (by simp;omega)).cell (j:=0) rfl;have y2_1:=(B2.o.grown HG1.o (by simp;omega)).cell (j:=0) rfl)
  | (go_at_call 10;refine(next_any _ b (a+1) L _ HT1.o (by omega) (by omega) ⟨by omega,by omega⟩).mono ?_;rintro e v2 ⟨rfl,htt,hgg⟩;rw [HN2.o];have HT2:=ai htt;have HG2:=ai (HG1.o.trans hgg);clear htt hgg;have y0_2:=(B0.o.grown HG2.o (by simp;omega)).cell (j:=0) rfl;have y1_2:=(B1.o.grown HG2.o (by simp;omega)).cell (j:=0) rfl;have y2_2:=(B2.o.grown HG2.o (by simp;omega)).cell (j:=0) rfl)
  | (go_at_call 10;refine(next_any _ b (a+1+1) L _ HT2.o (by omega) (by omega) ⟨by omega,by omega⟩).mono ?_;rintro e v3 ⟨rfl,htt,hgg⟩;rw [HN3.o];have HT3:=ai htt;have HG3:=ai (HG2.o.trans hgg);clear htt hgg;have y0_3:=(B0.o.grown HG3.o (by simp;omega)).cell (j:=0) rfl;have y1_3:=(B1.o.grown HG3.o (by simp;omega)).cell (j:=0) rfl;have y2_3:=(B2.o.grown HG3.o (by simp;omega)).cell (j:=0) rfl)
  | (go_at_call 10;refine(next_any _ b (a+1+1+1) L _ HT3.o (by omega) (by omega) ⟨by omega,by omega⟩).mono ?_;rintro e v4 ⟨rfl,htt,hgg⟩;rw [HN4.o];have HT4:=ai htt;have HG4:=ai (HG3.o.trans hgg);clear htt hgg;have y0_4:=(B0.o.grown HG4.o (by simp;omega)).cell (j:=0) rfl;have y1_4:=(B1.o.grown HG4.o (by simp;omega)).cell (j:=0) rfl;have y2_4:=(B2.o.grown HG4.o (by simp;omega)).cell (j:=0) rfl))
 generalize hV:v4.alloc (.cells #[.int .i64 24,.int .i64 25] 3) =V;have HLB:=ai (show Box V v4.heap.size (ops2.flatMap icells).toArray 3 from hV▸Box.new v4 #[.int .i64 24,.int .i64 25] 3)
 have HBV:=ai (show Below v4.heap.size v4 V from hV▸belA _)
 clear hV;have hs4:=HG4.o.size;have hs5:=HBV.o.size;have hll:=HLB.o.lt;have HGV:=ai (HG4.o.trans (only_below HBV.o _));have HTV:=ai (HT4.o.mono HBV.o);have HROW:=ai (row_of_box (size:=1) (cells:=icells) (xs:=ops2) (fun _=>rfl) (by decide) HLB.o)
 have HIX:=ai (show∀j:Nat,j<2→∀U,(Instr.indexAt 22 (.slice (some ⟨v4.heap.size,0,none⟩) 2 2) (.int .i64 (j:Int))).run Tryd.prog U = .ok (.pointer (some ⟨v4.heap.size,j,none⟩)) U from fun j hj U=>by
  have:=HROW.o.ix (i:=j) hj Tryd.underlying22 szint U
  simp only [Hd.b,Hd.o,Option.getD_some,Nat.zero_add,Nat.mul_one]at this;exact this)
 have HC:=ai (show∀j:Nat,j<2→∀w',Kept b (w.heap.size+1+1+1) V w'→w'.cell? ⟨v4.heap.size,j,none⟩ =some (.int .i64 (24+ (j:Int)))from fun j hj w' h=>by
  have h1:=row_of_box (size:=1) (cells:=icells) (xs:=ops2) (fun _=>rfl) (by decide) (h.box HLB.o (by omega) (by omega))
  have h2:=h1.2.2.2 j hj 0 _ rfl
  simpa [Hd.b,Hd.o,ops2_at hj]using h2)
 clear HT4 HT3 HT2 HT1 HBV x0 x1 x2 HROW;have z0: ∀w',Kept b (w.heap.size+1+1+1) V w'→w'.cell? ⟨w.heap.size,0,none⟩ =some (.pointer (some ⟨b,0,none⟩)):=fun w' h=>(h.box (B0.o.grown HGV.o (by simp;omega)) (by omega) (by omega)).cell (j:=0) rfl
 have z1: ∀w',Kept b (w.heap.size+1+1+1) V w'→w'.cell? ⟨w.heap.size+1,0,none⟩ =some (.slice r.h.ao r.l.length r.h.cap):=fun w' h=>(h.box (B1.o.grown HGV.o (by simp;omega)) (by omega) (by omega)).cell (j:=0) rfl
 have z2: ∀w',Kept b (w.heap.size+1+1+1) V w'→w'.cell? ⟨w.heap.size+1+1,0,none⟩ =some (.int .i64 d):=fun w' h=>(h.box (B2.o.grown HGV.o (by simp;omega)) (by omega) (by omega)).cell (j:=0) rfl
 go_region_held3 (fun w'=>Kept b (w.heap.size+1+1+1) V w') ((with_reducible first|exact Kept.drew (Kept.refl _ _ _) |exact Kept.grown (by assumption) (by assumption) |exact Kept.alloc (by assumption) _|exact Kept.set (Kept.set (Kept.set (Kept.set (Kept.set (Kept.set (by assumption) _ _) _ _) _ _) _ _) _ _) _ _))
  (first
   | (go_at_call 10;refine(next_any _ b (a+1+1+1+1) L 2 (HTV.o.mono (bel_self _)) (by omega) (by omega) ⟨by omega,by omega⟩).mono ?_;rintro e v5 ⟨rfl,htt,hgg⟩;obtain⟨j,hj,hj2⟩ : ∃j:Nat,L.next (a+1+1+1+1) 2=j∧j<2:=⟨(L.next (a+1+1+1+1) 2).toNat,by have:=(L.next_ok (a+1+1+1+1) (n:=2) (by decide)).1;omega,by have:=L.next_ok (a+1+1+1+1) (n:=2) (by decide);omega⟩;rw [hj];have hix:=HIX.o j hj2;have hcj:=HC.o j hj2;have HT5:=ai htt;have HG5:=ai (gb_drew hgg);clear htt)
   | (go_at_call 19;refine(HEE.o _ b (a+1+1+1+1+1) L r 2 rfl HT5.o (by omega) ⟨row_grown HR0.o.1 (HGV.o.trans HG5.o) hrb,HR0.o.2⟩ hrn hrb).mono ?_;rintro e v6 ⟨⟨q,rfl,hi1,hf1,hs1,hk1⟩,⟨a1,ha1,hb1,htt⟩,hgg⟩;clear hk1;have HG6:=ai (HG5.o.trans hgg);have HI6:=ai hi1;have HF6:=ai (hf1.mono (Nat.le_trans (Nat.le_trans HGV.o.size HG5.o.size) (Nat.le_refl _)));have HT6:=ai (show∃a6,a≤a6∧a6≤a+ (10+5*n)∧TapeIn v6 b L a6 from⟨a1,by omega,by omega,htt⟩);clear htt hi1 hf1;have hkb:=(B3.o.grown (HGV.o.trans HG6.o) (by simp;omega)).below (belA (.cells #[.int .i64 q.op,.int .i64 q.typ,.int .i64 q.num,.string q.text,.int .i64 q.col,.slice q.kh.ao q.kids.length q.kh.cap] 45));have e0:=hkb.cell (j:=0) rfl;have f0:=hkb.fr 0;have e1:=hkb.cell (j:=1) rfl;have f1:=hkb.fr 1;have e2:=hkb.cell (j:=2) rfl;have f2:=hkb.fr 2;have e3:=hkb.cell (j:=3) rfl;have f3:=hkb.fr 3;have e4:=hkb.cell (j:=4) rfl;have f4:=hkb.fr 4;have e5:=hkb.cell (j:=5) rfl;have f5:=hkb.fr 5;clear hkb)
   | (go_at_call 19;refine(HEE.o _ b (a+1+1+1+1) L r 2 rfl (HTV.o.mono (bel_self _)) (by omega) ⟨row_grown HR0.o.1 HGV.o hrb,HR0.o.2⟩ hrn hrb).mono ?_;rintro e v5 ⟨⟨q,rfl,hi1,hf1,hs1,hk1⟩,⟨a1,ha1,hb1,htt⟩,hgg⟩;clear hk1;have HT5:=ai htt;have HG5:=ai (gb_drew hgg);have HI5:=ai hi1;have HF6:=ai (hf1.mono (show W.heap.size≤V.drew.heap.size from HGV.o.size));clear htt hi1 hf1)
   | (go_at_call 10;refine(next_any _ b a1 L 2 HT5.o (by omega) (by omega) ⟨by omega,by omega⟩).mono ?_;rintro e v6 ⟨rfl,htt,hgg⟩;obtain⟨j,hj,hj2⟩ : ∃j:Nat,L.next a1 2=j∧j<2:=⟨(L.next a1 2).toNat,by have:=(L.next_ok a1 (n:=2) (by decide)).1;omega,by have:=L.next_ok a1 (n:=2) (by decide);omega⟩;rw [hj];have hix:=HIX.o j hj2;have hcj:=HC.o j hj2;have HG6:=ai (HG5.o.trans hgg);have HI6:=ai (HI5.o.grown HF6.o hgg (by omega));have HT6:=ai (show∃a6,a≤a6∧a6≤a+ (10+5*n)∧TapeIn v6 b L a6 from⟨a1+1,by omega,by omega,htt⟩);clear htt;have hkb:=(B3.o.grown (HGV.o.trans HG6.o) (by simp;omega)).below (belA (.cells #[.int .i64 q.op,.int .i64 q.typ,.int .i64 q.num,.string q.text,.int .i64 q.col,.slice q.kh.ao q.kids.length q.kh.cap] 45));have e0:=hkb.cell (j:=0) rfl;have f0:=hkb.fr 0;have e1:=hkb.cell (j:=1) rfl;have f1:=hkb.fr 1;have e2:=hkb.cell (j:=2) rfl;have f2:=hkb.fr 2;have e3:=hkb.cell (j:=3) rfl;have f3:=hkb.fr 3;have e4:=hkb.cell (j:=4) rfl;have f4:=hkb.fr 4;have e5:=hkb.cell (j:=5) rfl;have f5:=hkb.fr 5;clear hkb)
   | (go_at_call 10;refine(next_any _ b a1 L 2 (HT5.o.mono (belA _)) (by omega) (by omega) ⟨by omega,by omega⟩).mono ?_;rintro e v6 ⟨rfl,htt,hgg⟩;obtain⟨j,hj,hj2⟩ : ∃j:Nat,L.next a1 2=j∧j<2:=⟨(L.next a1 2).toNat,by have:=(L.next_ok a1 (n:=2) (by decide)).1;omega,by have:=L.next_ok a1 (n:=2) (by decide);omega⟩;rw [hj];have hix:=HIX.o j hj2;have hcj:=HC.o j hj2;have HG6:=ai ((HG5.o.trans (only_below (belA (.cells #[.int .i64 q.op,.int .i64 q.typ,.int .i64 q.num,.string q.text,.int .i64 q.col,.slice q.kh.ao q.kids.length q.kh.cap] 45)) _)).trans hgg);have HX6:=ai ((Box.new v5 ([q].flatMap Ex.cells).toArray 45).grown hgg (by have:=HG5.o.size;simp;omega));have HI6:=ai ((HI5.o.mono (belA _)).grown HF6.o hgg (by omega));have HT6:=ai (show∃a6,a≤a6∧a6≤a+ (10+5*n)∧TapeIn v6 b L a6 from⟨a1+1,by omega,by omega,htt⟩);clear htt;have hkb:=B3.o.grown (HGV.o.trans HG6.o) (by simp;omega);have e0:=hkb.cell (j:=0) rfl;have f0:=hkb.fr 0;have e1:=hkb.cell (j:=1) rfl;have f1:=hkb.fr 1;have e2:=hkb.cell (j:=2) rfl;have f2:=hkb.fr 2;have e3:=hkb.cell (j:=3) rfl;have f3:=hkb.fr 3;have e4:=hkb.cell (j:=4) rfl;have f4:=hkb.fr 4;have e5:=hkb.cell (j:=5) rfl;have f5:=hkb.fr 5;clear hkb))
 all_goals first
  | (
   have hsv:=HG6.o.size
   skip
   obtain⟨a6,h6a,h6b,ht6⟩:=HT6.o;have hop:int64 (24+ (j:Int)):=by constructor<;>omega
   have hin: (nodeEx (24+ (j:Int)) v6.heap.size 1 [q]).In (v6.alloc (.cells ([q].flatMap Ex.cells).toArray 45)):=node_in hop (fun x hx=>by rw [List.mem_singleton.1 hx];exact HI6.o.mono (belA _)) (by simp) (Box.new v6 _ _)
   have hfr: (nodeEx (24+ (j:Int)) v6.heap.size 1 [q]).Fresh W.heap.size:=node_fresh (by omega) (fun x hx=>by rw [List.mem_singleton.1 hx];exact HF6.o)
   have hsq: (nodeEx (24+ (j:Int)) v6.heap.size 1 [q]).size≤1+4*N:=by rw [Ex.size_eq];simp only [Ex.sizes];omega
   have HF:=ai (ex_done (ts:=r.l) (w:=w) (b:=b) (a:=a) (n:=10+5*n) (N:=1+4*N) (L:=L) (g:=w.heap.size+1+1+1) (B:=W.heap.size) (e:=nodeEx (24+ (j:Int)) v6.heap.size 1 [q]) hin hfr (by omega) (by omega) hsq h6a h6b (ht6.mono (belA _)) (((HWG.o.trans (HGV.o.trans HG6.o)).trans (only_below (belA _) _))) HLW.o (tyk_bool (by omega)))
   clear hin hfr hsq ht6 z0 z1 z2;go_wp2_with fail
   exact bodyPost_ret (v:=.agg #[.int .i64 (24+ (j:Int)),.int .i64 0,.int .i64 0,.string ⟨#[]⟩,.int .i64 0,.slice (some ⟨v6.heap.size,0,none⟩) 1 1]) (by simp [results,Tryd.results19,go_sem,e0,e1,e2,e3,e4,e5]) rfl HF.o)
  | (
   have hsv:=HG6.o.size;have hs55:=HG5.o.size;obtain⟨a6,h6a,h6b,ht6⟩:=HT6.o;have hop:int64 (24+ (j:Int)):=by constructor<;>omega
   have hin: (nodeEx (24+ (j:Int)) v5.heap.size 1 [q]).In (v6):=node_in hop (fun x hx=>by rw [List.mem_singleton.1 hx];exact HI6.o) (by simp) HX6.o
   have hfr: (nodeEx (24+ (j:Int)) v5.heap.size 1 [q]).Fresh W.heap.size:=node_fresh (by omega) (fun x hx=>by rw [List.mem_singleton.1 hx];exact HF6.o)
   have hsq: (nodeEx (24+ (j:Int)) v5.heap.size 1 [q]).size≤1+4*N:=by rw [Ex.size_eq];simp only [Ex.sizes];omega
   have HF:=ai (ex_done (ts:=r.l) (w:=w) (b:=b) (a:=a) (n:=10+5*n) (N:=1+4*N) (L:=L) (g:=w.heap.size+1+1+1) (B:=W.heap.size) (e:=nodeEx (24+ (j:Int)) v5.heap.size 1 [q]) hin hfr (by omega) (by omega) hsq h6a h6b (ht6) ((HWG.o.trans (HGV.o.trans HG6.o))) HLW.o (tyk_bool (by omega)))
   clear hin hfr hsq ht6 z0 z1 z2;go_wp2_with fail
   exact bodyPost_ret (v:=.agg #[.int .i64 (24+ (j:Int)),.int .i64 0,.int .i64 0,.string ⟨#[]⟩,.int .i64 0,.slice (some ⟨v5.heap.size,0,none⟩) 1 1]) (by simp [results,Tryd.results19,go_sem,e0,e1,e2,e3,e4,e5]) rfl HF.o)
end Go.Proofs.YtogalchclmmfgaaDoor

/- A part of the proof of AlgebraMade. -/
import Derived.Test.YtogalchclmmfgaaDoorP12
set_option maxRecDepth 100000
set_option maxHeartbeats 16000000
namespace Go.Proofs.YtogalchclmmfgaaDoor
open Go.RowKit
theorem expr_and {d:Int} (hd:2≤d∧d≤3) {n N:Nat} (hE:ExprAt n N (d - 1)) (w:World) (b a:Nat) (L r:IL) (k:Int) (hk:isT k=true) (ht:TapeIn w b L a) (ha:a+ (10+5*n)≤4611686018427370000) (hr:r.In w) (hrn:r.l.length≤1000) (hrb:0<r.l.length→r.h.b≠b) (m1:Int) (hm1:L.next a 4=m1) (m2:Int) (hm2:L.next (a+1) 4=m2) (m3:Int) (hm3:L.next (a+1+1) 3=m3) (m4:Int) (hm4:L.next (a+1+1+1) 6=m4) (m5:Int) (hm5:L.next (a+1+1+1+1) 2=m5) (h0:m1≠0) (h1:2≤m2) (hk0:k=2) (h3:m4=0) :
  Calls Tryd.prog 19 #[.pointer (some ⟨b,0,none⟩),.slice r.h.ao r.l.length r.h.cap,.int .i64 k,.int .i64 d] w fun e w'=>ExOut r.l k w w' b a (10+5*n) (1+4*N) L e:=by
 have hbl:=ht.lt;have hn:=hr.1.len;have HLW:=ai ht.low;have HK64:=ai hk;have HEE:=ai hE;have HBW:=ai (((belAA (w:=w) (.cells #[.pointer (some ⟨b,0,none⟩)] 23) (.cells #[.slice r.h.ao r.l.length r.h.cap] 22)).alloc (by simp only [World.size_alloc];omega) (.cells #[.int .i64 d] 3)).alloc (by simp only [World.size_alloc];omega) ZE)
 have B0:=ai ((((Box.new w #[.pointer (some ⟨b,0,none⟩)] 23).below (belA (.cells #[.slice r.h.ao r.l.length r.h.cap] 22))).below (belA (.cells #[.int .i64 d] 3))).below (belA ZE));have B1:=ai ((((Box.new (w.alloc (.cells #[.pointer (some ⟨b,0,none⟩)] 23)) #[.slice r.h.ao r.l.length r.h.cap] 22)).below (belA (.cells #[.int .i64 d] 3))).below (belA ZE));have B2:=ai (((Box.new ((w.alloc (.cells #[.pointer (some ⟨b,0,none⟩)] 23)).alloc (.cells #[.slice r.h.ao r.l.length r.h.cap] 22)) #[.int .i64 d] 3)).below (belA ZE));have B3:=ai (Box.new (((w.alloc (.cells #[.pointer (some ⟨b,0,none⟩)] 23)).alloc (.cells #[.slice r.h.ao r.l.length r.h.cap] 22)).alloc (.cells #[.int .i64 d] 3)) #[.int .i64 0,.int .i64 0,.int .i64 0,.string ⟨#[]⟩,.int .i64 0,.slice none 0 0] 45);simp only [World.size_alloc]at B0 B1 B2 B3;have HT0:=ai (ht.mono HBW.o);have HR0:=ai (hr.mono HBW.o);have hszW:=HBW.o.size;clear ht hr hk hE;have hw1:IntKind.i64.wrap (d - 1) =d - 1:=by
  have hc:d=2∨d=3:=by omega
  rcases hc with rfl|rfl<;>rfl
 have hd1: ¬d≤1:=by omega
 go_enter Tryd.func19,Tryd.ntmps19;go_upto_region 1 with(fail)
 have HSW:=ai (show((((w.alloc (.cells #[.pointer (some ⟨b,0,none⟩)] 23)).alloc (.cells #[.slice r.h.ao r.l.length r.h.cap] 22)).alloc (.cells #[.int .i64 d] 3)).alloc (.cells #[.int .i64 0,.int .i64 0,.int .i64 0,.string ⟨#[]⟩,.int .i64 0,.slice none 0 0] 45)).heap.size=w.heap.size+4 from by simp)
 generalize (((w.alloc (.cells #[.pointer (some ⟨b,0,none⟩)] 23)).alloc (.cells #[.slice r.h.ao r.l.length r.h.cap] 22)).alloc (.cells #[.int .i64 d] 3)).alloc (.cells #[.int .i64 0,.int .i64 0,.int .i64 0,.string ⟨#[]⟩,.int .i64 0,.slice none 0 0] 45) =W at *;have hws:W.heap.size=w.heap.size+4:=HSW.o;have HG0:=ai (World.grownBy.refl W (some b));have HWG:=ai (show w.grownBy W (some b)from only_below HBW.o _)
 have hmf: ∀(fn:Fn) (first cap:Array Value) (w:World),(Instr.makeFunc fn first cap).run Tryd.prog w = .ok (.func fn first cap) w:=fun _ _ _ _=>rfl
 have x0:=B0.o.cell (j:=0) rfl
 have x1:=B1.o.cell (j:=0) rfl
 have x2:=B2.o.cell (j:=0) rfl
 have hr1:=L.next_ok a (n:=4) (by decide)
 rw [hm1]at hr1;have HN1:=ai hm1;clear hm1;have hr2:=L.next_ok (a+1) (n:=4) (by decide)
 rw [hm2]at hr2;have HN2:=ai hm2;clear hm2;have hr3:=L.next_ok (a+1+1) (n:=3) (by decide)
 rw [hm3]at hr3;have HN3:=ai hm3;clear hm3;have hr4:=L.next_ok (a+1+1+1) (n:=6) (by decide)
 rw [hm4]at hr4;have HN4:=ai hm4;clear hm4;have hr5:=L.next_ok (a+1+1+1+1) (n:=2) (by decide)
 rw [hm5]at hr5;have HN5:=ai hm5;clear hm5;subst h3;subst hk0;have hm1_0: (m1 == 0) =false:=beq_eq_false_iff_ne.2 (by omega)
 have hm2_0: (m2 == 0) =false:=beq_eq_false_iff_ne.2 (by omega)
 have hm2_1: (m2 == 1) =false:=beq_eq_false_iff_ne.2 (by omega)
 have hx1:IntKind.i64.wrap (1+m3) =1+m3:=(by rw [IntKind.wrap_i64];omega)
 have hxt:isT (1+m3) =true:=decide_eq_true (by omega)
 have hw6:IntKind.i64.wrap (22+m5) =22+m5:=(by rw [IntKind.wrap_i64];omega)
 have HOP:=ai (show int64 (22+m5) by constructor<;>omega)
 go_wp2_with (first
  | (go_at_call 10;refine(next_any _ b a L _ HT0.o (by omega) (by omega) ⟨by omega,by omega⟩).mono ?_;rintro e v1 ⟨rfl,htt,hgg⟩;rw [HN1.o];have HT1:=ai htt;have HG1:=ai (HG0.o.trans hgg);clear htt hgg;have y0_1:=(B0.o.grown HG1.o (by simp;omega)).cell (j:=0) rfl;have y1_1:=(B1.o.grown HG1.o (by simp;omega)).cell (j:=0) rfl;have y2_1:=(B2.o.grown HG1.o (by simp;omega)).cell (j:=0) rfl)
  | (go_at_call 10;refine(next_any _ b (a+1) L _ HT1.o (by omega) (by omega) ⟨by omega,by omega⟩).mono ?_;rintro e v2 ⟨rfl,htt,hgg⟩;rw [HN2.o];have HT2:=ai htt;have HG2:=ai (HG1.o.trans hgg);clear htt hgg;have y0_2:=(B0.o.grown HG2.o (by simp;omega)).cell (j:=0) rfl;have y1_2:=(B1.o.grown HG2.o (by simp;omega)).cell (j:=0) rfl;have y2_2:=(B2.o.grown HG2.o (by simp;omega)).cell (j:=0) rfl)
  | (go_at_call 10;refine(next_any _ b (a+1+1) L _ HT2.o (by omega) (by omega) ⟨by omega,by omega⟩).mono ?_;rintro e v3 ⟨rfl,htt,hgg⟩;rw [HN3.o];have HT3:=ai htt;have HG3:=ai (HG2.o.trans hgg);clear htt hgg;have y0_3:=(B0.o.grown HG3.o (by simp;omega)).cell (j:=0) rfl;have y1_3:=(B1.o.grown HG3.o (by simp;omega)).cell (j:=0) rfl;have y2_3:=(B2.o.grown HG3.o (by simp;omega)).cell (j:=0) rfl)
  | (go_at_call 10;refine(next_any _ b (a+1+1+1) L _ HT3.o (by omega) (by omega) ⟨by omega,by omega⟩).mono ?_;rintro e v4 ⟨rfl,htt,hgg⟩;rw [HN4.o];have HT4:=ai htt;have HG4:=ai (HG3.o.trans hgg);clear htt hgg;have y0_4:=(B0.o.grown HG4.o (by simp;omega)).cell (j:=0) rfl;have y1_4:=(B1.o.grown HG4.o (by simp;omega)).cell (j:=0) rfl;have y2_4:=(B2.o.grown HG4.o (by simp;omega)).cell (j:=0) rfl)
  | (go_at_call 10;refine(next_any _ b (a+1+1+1+1) L _ HT4.o (by omega) (by omega) ⟨by omega,by omega⟩).mono ?_;rintro e v5 ⟨rfl,htt,hgg⟩;rw [HN5.o];have HT5:=ai htt;have HG5:=ai (HG4.o.trans hgg);clear htt hgg;have y0_5:=(B0.o.grown HG5.o (by simp;omega)).cell (j:=0) rfl;have y1_5:=(B1.o.grown HG5.o (by simp;omega)).cell (j:=0) rfl;have y2_5:=(B2.o.grown HG5.o (by simp;omega)).cell (j:=0) rfl)
  | (go_at_call 42;refine(two_any hd HEE.o _ b (a+1+1+1+1+1) L r _ 2 rfl HT5.o (by omega) ⟨row_grown HR0.o.1 HG5.o hrb,HR0.o.2⟩ hrn hrb w.heap.size (w.heap.size+1) (w.heap.size+1+1) _ _ _ (B0.o.grown HG5.o (by simp;omega)) (B1.o.grown HG5.o (by simp;omega)) (B2.o.grown HG5.o (by simp;omega)) (by omega) (by omega) (by omega)).mono ?_;rintro e v6 ho;obtain⟨⟨q,rfl,hi1,hf1,hs1,hk1⟩,⟨a1,ha1,hb1,ht1⟩,hg1⟩:=ho.ex HOP.o (fun p s g h=>tyk_bool (by omega));have HK1:=ai hk1;clear hk1;have HI1:=ai hi1;have HF1:=ai (hf1.mono HG5.o.size);have HT6:=ai ht1;have HG6:=ai (HG5.o.trans hg1);have HGL:=ai hg1;clear ho hi1 hf1 ht1 hg1;have hkb:=B3.o.grown HG6.o (by simp;omega);have e0:=hkb.cell (j:=0) rfl;have f0:=hkb.fr 0;have e1:=hkb.cell (j:=1) rfl;have f1:=hkb.fr 1;have e2:=hkb.cell (j:=2) rfl;have f2:=hkb.fr 2;have e3:=hkb.cell (j:=3) rfl;have f3:=hkb.fr 3;have e4:=hkb.cell (j:=4) rfl;have f4:=hkb.fr 4;have e5:=hkb.cell (j:=5) rfl;have f5:=hkb.fr 5;clear hkb))
 have hsv:=HG6.o.size;have HF:=ai (ex_done (ts:=r.l) (w:=w) (b:=b) (a:=a) (n:=10+5*n) (N:=1+4*N) (L:=L) (g:=w.heap.size+1+1+1) (B:=W.heap.size) (e:=q) HI1.o HF1.o (by omega) (by omega) (by omega) (by omega) (by omega) HT6.o (HWG.o.trans HG6.o) HLW.o (HK1.o))
 go_wp2_with fail
 exact bodyPost_ret (v:=.agg #[.int .i64 (q).op,.int .i64 (q).typ,.int .i64 (q).num,.string (q).text,.int .i64 (q).col,.slice (q).kh.ao (q).kids.length (q).kh.cap]) (by simp [results,Tryd.results19,go_sem,e0,e1,e2,e3,e4,e5]) rfl HF.o
theorem expr_isnull {d:Int} (hd:2≤d∧d≤3) {n N:Nat} (hE:ExprAt n N (d - 1)) (w:World) (b a:Nat) (L r:IL) (k:Int) (hk:isT k=true) (ht:TapeIn w b L a) (ha:a+ (10+5*n)≤4611686018427370000) (hr:r.In w) (hrn:r.l.length≤1000) (hrb:0<r.l.length→r.h.b≠b) (m1:Int) (hm1:L.next a 4=m1) (m2:Int) (hm2:L.next (a+1) 4=m2) (m3:Int) (hm3:L.next (a+1+1) 3=m3) (m4:Int) (hm4:L.next (a+1+1+1) 6=m4) (h0:m1≠0) (h1:2≤m2) (hk0:k=2) (h3:m4=2) :
  Calls Tryd.prog 19 #[.pointer (some ⟨b,0,none⟩),.slice r.h.ao r.l.length r.h.cap,.int .i64 k,.int .i64 d] w fun e w'=>ExOut r.l k w w' b a (10+5*n) (1+4*N) L e:=by
 have hbl:=ht.lt;have hn:=hr.1.len;have HLW:=ai ht.low;have HK64:=ai hk;have HEE:=ai hE;have HBW:=ai (((belAA (w:=w) (.cells #[.pointer (some ⟨b,0,none⟩)] 23) (.cells #[.slice r.h.ao r.l.length r.h.cap] 22)).alloc (by simp only [World.size_alloc];omega) (.cells #[.int .i64 d] 3)).alloc (by simp only [World.size_alloc];omega) ZE)
 have B0:=ai ((((Box.new w #[.pointer (some ⟨b,0,none⟩)] 23).below (belA (.cells #[.slice r.h.ao r.l.length r.h.cap] 22))).below (belA (.cells #[.int .i64 d] 3))).below (belA ZE));have B1:=ai ((((Box.new (w.alloc (.cells #[.pointer (some ⟨b,0,none⟩)] 23)) #[.slice r.h.ao r.l.length r.h.cap] 22)).below (belA (.cells #[.int .i64 d] 3))).below (belA ZE));have B2:=ai (((Box.new ((w.alloc (.cells #[.pointer (some ⟨b,0,none⟩)] 23)).alloc (.cells #[.slice r.h.ao r.l.length r.h.cap] 22)) #[.int .i64 d] 3)).below (belA ZE));have B3:=ai (Box.new (((w.alloc (.cells #[.pointer (some ⟨b,0,none⟩)] 23)).alloc (.cells #[.slice r.h.ao r.l.length r.h.cap] 22)).alloc (.cells #[.int .i64 d] 3)) #[.int .i64 0,.int .i64 0,.int .i64 0,.string ⟨#[]⟩,.int .i64 0,.slice none 0 0] 45);simp only [World.size_alloc]at B0 B1 B2 B3;have HT0:=ai (ht.mono HBW.o);have HR0:=ai (hr.mono HBW.o);have hszW:=HBW.o.size;clear ht hr hk hE;have hw1:IntKind.i64.wrap (d - 1) =d - 1:=by
  have hc:d=2∨d=3:=by omega
  rcases hc with rfl|rfl<;>rfl
 have hd1: ¬d≤1:=by omega
 go_enter Tryd.func19,Tryd.ntmps19;go_upto_region 1 with(fail)
 have HSW:=ai (show((((w.alloc (.cells #[.pointer (some ⟨b,0,none⟩)] 23)).alloc (.cells #[.slice r.h.ao r.l.length r.h.cap] 22)).alloc (.cells #[.int .i64 d] 3)).alloc (.cells #[.int .i64 0,.int .i64 0,.int .i64 0,.string ⟨#[]⟩,.int .i64 0,.slice none 0 0] 45)).heap.size=w.heap.size+4 from by simp)
 generalize (((w.alloc (.cells #[.pointer (some ⟨b,0,none⟩)] 23)).alloc (.cells #[.slice r.h.ao r.l.length r.h.cap] 22)).alloc (.cells #[.int .i64 d] 3)).alloc (.cells #[.int .i64 0,.int .i64 0,.int .i64 0,.string ⟨#[]⟩,.int .i64 0,.slice none 0 0] 45) =W at *;have hws:W.heap.size=w.heap.size+4:=HSW.o;have HG0:=ai (World.grownBy.refl W (some b));have HWG:=ai (show w.grownBy W (some b)from only_below HBW.o _)
 have hmf: ∀(fn:Fn) (first cap:Array Value) (w:World),(Instr.makeFunc fn first cap).run Tryd.prog w = .ok (.func fn first cap) w:=fun _ _ _ _=>rfl
 have x0:=B0.o.cell (j:=0) rfl
 have x1:=B1.o.cell (j:=0) rfl
 have x2:=B2.o.cell (j:=0) rfl
 have hr1:=L.next_ok a (n:=4) (by decide)
 rw [hm1]at hr1;have HN1:=ai hm1;clear hm1;have hr2:=L.next_ok (a+1) (n:=4) (by decide)
 rw [hm2]at hr2;have HN2:=ai hm2;clear hm2;have hr3:=L.next_ok (a+1+1) (n:=3) (by decide)
 rw [hm3]at hr3;have HN3:=ai hm3;clear hm3;have hr4:=L.next_ok (a+1+1+1) (n:=6) (by decide)
 rw [hm4]at hr4;have HN4:=ai hm4;clear hm4;subst h3;subst hk0;have hm1_0: (m1 == 0) =false:=beq_eq_false_iff_ne.2 (by omega)
 have hm2_0: (m2 == 0) =false:=beq_eq_false_iff_ne.2 (by omega)
 have hm2_1: (m2 == 1) =false:=beq_eq_false_iff_ne.2 (by omega)
 have hx1:IntKind.i64.wrap (1+m3) =1+m3:=(by rw [IntKind.wrap_i64];omega)
 have hxt:isT (1+m3) =true:=decide_eq_true (by omega)
 go_wp2_with (first
  | (go_at_call 10;refine(next_any _ b a L _ HT0.o (by omega) (by omega) ⟨by omega,by omega⟩).mono ?_;rintro e v1 ⟨rfl,htt,hgg⟩;rw [HN1.o];have HT1:=ai htt;have HG1:=ai (HG0.o.trans hgg);clear htt hgg;have y0_1:=(B0.o.grown HG1.o (by simp;omega)).cell (j:=0) rfl;have y1_1:=(B1.o.grown HG1.o (by simp;omega)).cell (j:=0) rfl;have y2_1:=(B2.o.grown HG1.o (by simp;omega)).cell (j:=0) rfl)
  | (go_at_call 10;refine(next_any _ b (a+1) L _ HT1.o (by omega) (by omega) ⟨by omega,by omega⟩).mono ?_;rintro e v2 ⟨rfl,htt,hgg⟩;rw [HN2.o];have HT2:=ai htt;have HG2:=ai (HG1.o.trans hgg);clear htt hgg;have y0_2:=(B0.o.grown HG2.o (by simp;omega)).cell (j:=0) rfl;have y1_2:=(B1.o.grown HG2.o (by simp;omega)).cell (j:=0) rfl;have y2_2:=(B2.o.grown HG2.o (by simp;omega)).cell (j:=0) rfl)
  | (go_at_call 10;refine(next_any _ b (a+1+1) L _ HT2.o (by omega) (by omega) ⟨by omega,by omega⟩).mono ?_;rintro e v3 ⟨rfl,htt,hgg⟩;rw [HN3.o];have HT3:=ai htt;have HG3:=ai (HG2.o.trans hgg);clear htt hgg;have y0_3:=(B0.o.grown HG3.o (by simp;omega)).cell (j:=0) rfl;have y1_3:=(B1.o.grown HG3.o (by simp;omega)).cell (j:=0) rfl;have y2_3:=(B2.o.grown HG3.o (by simp;omega)).cell (j:=0) rfl)
  | (go_at_call 10;refine(next_any _ b (a+1+1+1) L _ HT3.o (by omega) (by omega) ⟨by omega,by omega⟩).mono ?_;rintro e v4 ⟨rfl,htt,hgg⟩;rw [HN4.o];have HT4:=ai htt;have HG4:=ai (HG3.o.trans hgg);clear htt hgg;have y0_4:=(B0.o.grown HG4.o (by simp;omega)).cell (j:=0) rfl;have y1_4:=(B1.o.grown HG4.o (by simp;omega)).cell (j:=0) rfl;have y2_4:=(B2.o.grown HG4.o (by simp;omega)).cell (j:=0) rfl)
  | (go_at_call 19;refine(HEE.o _ b (a+1+1+1+1) L r (1+m3) hxt HT4.o (by omega) ⟨row_grown HR0.o.1 HG4.o hrb,HR0.o.2⟩ hrn hrb).mono ?_;rintro e v5 ⟨⟨q,rfl,hi1,hf1,hs1,hk1⟩,⟨a1,ha1,hb1,ht1⟩,hg1⟩;have HK1:=ai hk1;clear hk1;have HI1:=ai hi1;have HF1:=ai (hf1.mono HG4.o.size);have HT5:=ai ht1;have HG5:=ai (HG4.o.trans hg1);have HGL:=ai hg1;clear hi1 hf1 ht1 hg1;have hkb:=(B3.o.grown HG5.o (by simp;omega)).below (belA (.cells #[.int .i64 q.op,.int .i64 q.typ,.int .i64 q.num,.string q.text,.int .i64 q.col,.slice q.kh.ao q.kids.length q.kh.cap] 45));have e0:=hkb.cell (j:=0) rfl;have f0:=hkb.fr 0;have e1:=hkb.cell (j:=1) rfl;have f1:=hkb.fr 1;have e2:=hkb.cell (j:=2) rfl;have f2:=hkb.fr 2;have e3:=hkb.cell (j:=3) rfl;have f3:=hkb.fr 3;have e4:=hkb.cell (j:=4) rfl;have f4:=hkb.fr 4;have e5:=hkb.cell (j:=5) rfl;have f5:=hkb.fr 5;clear hkb))
 have hin: (nodeEx 21 v5.heap.size 1 [q]).In (v5.alloc (.cells ([q].flatMap Ex.cells).toArray 45)):=node_in (by constructor<;>decide) (fun x hx=>by rw [List.mem_singleton.1 hx];exact HI1.o.mono (belA _)) (by simp) (Box.new v5 _ _)
 have hsq: (nodeEx 21 v5.heap.size 1 [q]).size≤1+4*N:=by rw [Ex.size_eq];simp only [Ex.sizes];omega
 have hsv:=HG5.o.size;have HF:=ai (ex_done (ts:=r.l) (w:=w) (b:=b) (a:=a) (n:=10+5*n) (N:=1+4*N) (L:=L) (g:=w.heap.size+1+1+1) (B:=W.heap.size) (e:=nodeEx 21 v5.heap.size 1 [q]) hin (node_fresh HG5.o.size (fun x hx=>by rw [List.mem_singleton.1 hx];exact HF1.o)) (by omega) (by omega) hsq (by omega) (by omega) (HT5.o.mono (belA _)) ((HWG.o.trans HG5.o).trans (only_below (belA _) _)) HLW.o (tyk_bool (by omega)))
 go_wp2_with fail
 exact bodyPost_ret (v:=.agg #[.int .i64 (nodeEx 21 v5.heap.size 1 [q]).op,.int .i64 (nodeEx 21 v5.heap.size 1 [q]).typ,.int .i64 (nodeEx 21 v5.heap.size 1 [q]).num,.string (nodeEx 21 v5.heap.size 1 [q]).text,.int .i64 (nodeEx 21 v5.heap.size 1 [q]).col,.slice (nodeEx 21 v5.heap.size 1 [q]).kh.ao (nodeEx 21 v5.heap.size 1 [q]).kids.length (nodeEx 21 v5.heap.size 1 [q]).kh.cap]) (by simp [results,Tryd.results19,go_sem,e0,e1,e2,e3,e4,e5]) rfl HF.o
theorem expr_cmp {d:Int} (hd:2≤d∧d≤3) {n N:Nat} (hE:ExprAt n N (d - 1)) (w:World) (b a:Nat) (L r:IL) (k:Int) (hk:isT k=true) (ht:TapeIn w b L a) (ha:a+ (10+5*n)≤4611686018427370000) (hr:r.In w) (hrn:r.l.length≤1000) (hrb:0<r.l.length→r.h.b≠b) (m1:Int) (hm1:L.next a 4=m1) (m2:Int) (hm2:L.next (a+1) 4=m2) (m3:Int) (hm3:L.next (a+1+1) 3=m3) (m4:Int) (hm4:L.next (a+1+1+1) 6=m4) (m5:Int) (hm5:L.next (a+1+1+1+1) 7=m5) (h0:m1≠0) (h1:2≤m2) (hk0:k=2) (h3:4≤m4) :
  Calls Tryd.prog 19 #[.pointer (some ⟨b,0,none⟩),.slice r.h.ao r.l.length r.h.cap,.int .i64 k,.int .i64 d] w fun e w'=>ExOut r.l k w w' b a (10+5*n) (1+4*N) L e:=by
 have hbl:=ht.lt;have hn:=hr.1.len;have HLW:=ai ht.low;have HK64:=ai hk;have HEE:=ai hE;have HBW:=ai (((belAA (w:=w) (.cells #[.pointer (some ⟨b,0,none⟩)] 23) (.cells #[.slice r.h.ao r.l.length r.h.cap] 22)).alloc (by simp only [World.size_alloc];omega) (.cells #[.int .i64 d] 3)).alloc (by simp only [World.size_alloc];omega) ZE)
 have B0:=ai ((((Box.new w #[.pointer (some ⟨b,0,none⟩)] 23).below (belA (.cells #[.slice r.h.ao r.l.length r.h.cap] 22))).below (belA (.cells #[.int .i64 d] 3))).below (belA ZE));have B1:=ai ((((Box.new (w.alloc (.cells #[.pointer (some ⟨b,0,none⟩)] 23)) #[.slice r.h.ao r.l.length r.h.cap] 22)).below (belA (.cells #[.int .i64 d] 3))).below (belA ZE));have B2:=ai (((Box.new ((w.alloc (.cells #[.pointer (some ⟨b,0,none⟩)] 23)).alloc (.cells #[.slice r.h.ao r.l.length r.h.cap] 22)) #[.int .i64 d] 3)).below (belA ZE));have B3:=ai (Box.new (((w.alloc (.cells #[.pointer (some ⟨b,0,none⟩)] 23)).alloc (.cells #[.slice r.h.ao r.l.length r.h.cap] 22)).alloc (.cells #[.int .i64 d] 3)) #[.int .i64 0,.int .i64 0,.int .i64 0,.string ⟨#[]⟩,.int .i64 0,.slice none 0 0] 45);simp only [World.size_alloc]at B0 B1 B2 B3;have HT0:=ai (ht.mono HBW.o);have HR0:=ai (hr.mono HBW.o);have hszW:=HBW.o.size;clear ht hr hk hE;have hw1:IntKind.i64.wrap (d - 1) =d - 1:=by
  have hc:d=2∨d=3:=by omega
  rcases hc with rfl|rfl<;>rfl
 have hd1: ¬d≤1:=by omega
 go_enter Tryd.func19,Tryd.ntmps19;go_upto_region 1 with(fail)
 have HSW:=ai (show((((w.alloc (.cells #[.pointer (some ⟨b,0,none⟩)] 23)).alloc (.cells #[.slice r.h.ao r.l.length r.h.cap] 22)).alloc (.cells #[.int .i64 d] 3)).alloc (.cells #[.int .i64 0,.int .i64 0,.int .i64 0,.string ⟨#[]⟩,.int .i64 0,.slice none 0 0] 45)).heap.size=w.heap.size+4 from by simp)
 generalize (((w.alloc (.cells #[.pointer (some ⟨b,0,none⟩)] 23)).alloc (.cells #[.slice r.h.ao r.l.length r.h.cap] 22)).alloc (.cells #[.int .i64 d] 3)).alloc (.cells #[.int .i64 0,.int .i64 0,.int .i64 0,.string ⟨#[]⟩,.int .i64 0,.slice none 0 0] 45) =W at *;have hws:W.heap.size=w.heap.size+4:=HSW.o;have HG0:=ai (World.grownBy.refl W (some b));have HWG:=ai (show w.grownBy W (some b)from only_below HBW.o _)
 have hmf: ∀(fn:Fn) (first cap:Array Value) (w:World),(Instr.makeFunc fn first cap).run Tryd.prog w = .ok (.func fn first cap) w:=fun _ _ _ _=>rfl
 have x0:=B0.o.cell (j:=0) rfl
 have x1:=B1.o.cell (j:=0) rfl
 have x2:=B2.o.cell (j:=0) rfl
 have hr1:=L.next_ok a (n:=4) (by decide)
 rw [hm1]at hr1;have HN1:=ai hm1;clear hm1;have hr2:=L.next_ok (a+1) (n:=4) (by decide)
 rw [hm2]at hr2;have HN2:=ai hm2;clear hm2;have hr3:=L.next_ok (a+1+1) (n:=3) (by decide)
 rw [hm3]at hr3;have HN3:=ai hm3;clear hm3;have hr4:=L.next_ok (a+1+1+1) (n:=6) (by decide)
 rw [hm4]at hr4;have HN4:=ai hm4;clear hm4;have hr5:=L.next_ok (a+1+1+1+1) (n:=7) (by decide)
 rw [hm5]at hr5;have HN5:=ai hm5;clear hm5;subst hk0;have hm1_0: (m1 == 0) =false:=beq_eq_false_iff_ne.2 (by omega)
 have hm2_0: (m2 == 0) =false:=beq_eq_false_iff_ne.2 (by omega)
 have hm2_1: (m2 == 1) =false:=beq_eq_false_iff_ne.2 (by omega)
 have hx1:IntKind.i64.wrap (1+m3) =1+m3:=(by rw [IntKind.wrap_i64];omega)
 have hxt:isT (1+m3) =true:=decide_eq_true (by omega)
 have hm4_0: (m4 == 0) =false:=beq_eq_false_iff_ne.2 (by omega)
 have hm4_1: (m4 == 1) =false:=beq_eq_false_iff_ne.2 (by omega)
 have hm4_2: (m4 == 2) =false:=beq_eq_false_iff_ne.2 (by omega)
 have hm4_3: (m4 == 3) =false:=beq_eq_false_iff_ne.2 (by omega)
 have hw6:IntKind.i64.wrap (14+m5) =14+m5:=(by rw [IntKind.wrap_i64];omega)
 have HOP:=ai (show int64 (14+m5) by constructor<;>omega)
 go_wp2_with (first
  | (go_at_call 10;refine(next_any _ b a L _ HT0.o (by omega) (by omega) ⟨by omega,by omega⟩).mono ?_;rintro e v1 ⟨rfl,htt,hgg⟩;rw [HN1.o];have HT1:=ai htt;have HG1:=ai (HG0.o.trans hgg);clear htt hgg;have y0_1:=(B0.o.grown HG1.o (by simp;omega)).cell (j:=0) rfl;have y1_1:=(B1.o.grown HG1.o (by simp;omega)).cell (j:=0) rfl;have y2_1:=(B2.o.grown HG1.o (by simp;omega)).cell (j:=0) rfl)
  | (go_at_call 10;refine(next_any _ b (a+1) L _ HT1.o (by omega) (by omega) ⟨by omega,by omega⟩).mono ?_;rintro e v2 ⟨rfl,htt,hgg⟩;rw [HN2.o];have HT2:=ai htt;have HG2:=ai (HG1.o.trans hgg);clear htt hgg;have y0_2:=(B0.o.grown HG2.o (by simp;omega)).cell (j:=0) rfl;have y1_2:=(B1.o.grown HG2.o (by simp;omega)).cell (j:=0) rfl;have y2_2:=(B2.o.grown HG2.o (by simp;omega)).cell (j:=0) rfl)
  | (go_at_call 10;refine(next_any _ b (a+1+1) L _ HT2.o (by omega) (by omega) ⟨by omega,by omega⟩).mono ?_;rintro e v3 ⟨rfl,htt,hgg⟩;rw [HN3.o];have HT3:=ai htt;have HG3:=ai (HG2.o.trans hgg);clear htt hgg;have y0_3:=(B0.o.grown HG3.o (by simp;omega)).cell (j:=0) rfl;have y1_3:=(B1.o.grown HG3.o (by simp;omega)).cell (j:=0) rfl;have y2_3:=(B2.o.grown HG3.o (by simp;omega)).cell (j:=0) rfl)
  | (go_at_call 10;refine(next_any _ b (a+1+1+1) L _ HT3.o (by omega) (by omega) ⟨by omega,by omega⟩).mono ?_;rintro e v4 ⟨rfl,htt,hgg⟩;rw [HN4.o];have HT4:=ai htt;have HG4:=ai (HG3.o.trans hgg);clear htt hgg;have y0_4:=(B0.o.grown HG4.o (by simp;omega)).cell (j:=0) rfl;have y1_4:=(B1.o.grown HG4.o (by simp;omega)).cell (j:=0) rfl;have y2_4:=(B2.o.grown HG4.o (by simp;omega)).cell (j:=0) rfl)
  | (go_at_call 10;refine(next_any _ b (a+1+1+1+1) L _ HT4.o (by omega) (by omega) ⟨by omega,by omega⟩).mono ?_;rintro e v5 ⟨rfl,htt,hgg⟩;rw [HN5.o];have HT5:=ai htt;have HG5:=ai (HG4.o.trans hgg);clear htt hgg;have y0_5:=(B0.o.grown HG5.o (by simp;omega)).cell (j:=0) rfl;have y1_5:=(B1.o.grown HG5.o (by simp;omega)).cell (j:=0) rfl;have y2_5:=(B2.o.grown HG5.o (by simp;omega)).cell (j:=0) rfl)
  | (go_at_call 42;refine(two_any hd HEE.o _ b (a+1+1+1+1+1) L r _ (1+m3) hxt HT5.o (by omega) ⟨row_grown HR0.o.1 HG5.o hrb,HR0.o.2⟩ hrn hrb w.heap.size (w.heap.size+1) (w.heap.size+1+1) _ _ _ (B0.o.grown HG5.o (by simp;omega)) (B1.o.grown HG5.o (by simp;omega)) (B2.o.grown HG5.o (by simp;omega)) (by omega) (by omega) (by omega)).mono ?_;rintro e v6 ho;obtain⟨⟨q,rfl,hi1,hf1,hs1,hk1⟩,⟨a1,ha1,hb1,ht1⟩,hg1⟩:=ho.ex HOP.o (fun p s g h=>tyk_bool (by omega));have HK1:=ai hk1;clear hk1;have HI1:=ai hi1;have HF1:=ai (hf1.mono HG5.o.size);have HT6:=ai ht1;have HG6:=ai (HG5.o.trans hg1);have HGL:=ai hg1;clear ho hi1 hf1 ht1 hg1;have hkb:=B3.o.grown HG6.o (by simp;omega);have e0:=hkb.cell (j:=0) rfl;have f0:=hkb.fr 0;have e1:=hkb.cell (j:=1) rfl;have f1:=hkb.fr 1;have e2:=hkb.cell (j:=2) rfl;have f2:=hkb.fr 2;have e3:=hkb.cell (j:=3) rfl;have f3:=hkb.fr 3;have e4:=hkb.cell (j:=4) rfl;have f4:=hkb.fr 4;have e5:=hkb.cell (j:=5) rfl;have f5:=hkb.fr 5;clear hkb))
 have hsv:=HG6.o.size;have HF:=ai (ex_done (ts:=r.l) (w:=w) (b:=b) (a:=a) (n:=10+5*n) (N:=1+4*N) (L:=L) (g:=w.heap.size+1+1+1) (B:=W.heap.size) (e:=q) HI1.o HF1.o (by omega) (by omega) (by omega) (by omega) (by omega) HT6.o (HWG.o.trans HG6.o) HLW.o (HK1.o))
 go_wp2_with fail
 exact bodyPost_ret (v:=.agg #[.int .i64 (q).op,.int .i64 (q).typ,.int .i64 (q).num,.string (q).text,.int .i64 (q).col,.slice (q).kh.ao (q).kids.length (q).kh.cap]) (by simp [results,Tryd.results19,go_sem,e0,e1,e2,e3,e4,e5]) rfl HF.o
end Go.Proofs.YtogalchclmmfgaaDoor
namespace Go.Proofs.YtogalchclmmfgaaDoor
open Go.RowKit
theorem expr_case {d:Int} (hd:2≤d∧d≤3) {n N:Nat} (hE:ExprAt n N (d - 1)) (w:World) (b a:Nat) (L r:IL) (k:Int) (hk:isT k=true) (ht:TapeIn w b L a) (ha:a+ (10+5*n)≤4611686018427370000) (hr:r.In w) (hrn:r.l.length≤1000) (hrb:0<r.l.length→r.h.b≠b) (m1:Int) (hm1:L.next a 4=m1) (m2:Int) (hm2:L.next (a+1) 4=m2) (h0:m1≠0) (h1:m2=0) :
  Calls Tryd.prog 19 #[.pointer (some ⟨b,0,none⟩),.slice r.h.ao r.l.length r.h.cap,.int .i64 k,.int .i64 d] w fun e w'=>ExOut r.l k w w' b a (10+5*n) (1+4*N) L e:=by
 have hbl:=ht.lt;have hn:=hr.1.len;have HLW:=ai ht.low;have HK64:=ai hk;have HEE:=ai hE;have HBW:=ai (((belAA (w:=w) (.cells #[.pointer (some ⟨b,0,none⟩)] 23) (.cells #[.slice r.h.ao r.l.length r.h.cap] 22)).alloc (by simp only [World.size_alloc];omega) (.cells #[.int .i64 d] 3)).alloc (by simp only [World.size_alloc];omega) ZE)
 have B0:=ai ((((Box.new w #[.pointer (some ⟨b,0,none⟩)] 23).below (belA (.cells #[.slice r.h.ao r.l.length r.h.cap] 22))).below (belA (.cells #[.int .i64 d] 3))).below (belA ZE));have B1:=ai ((((Box.new (w.alloc (.cells #[.pointer (some ⟨b,0,none⟩)] 23)) #[.slice r.h.ao r.l.length r.h.cap] 22)).below (belA (.cells #[.int .i64 d] 3))).below (belA ZE));have B2:=ai (((Box.new ((w.alloc (.cells #[.pointer (some ⟨b,0,none⟩)] 23)).alloc (.cells #[.slice r.h.ao r.l.length r.h.cap] 22)) #[.int .i64 d] 3)).below (belA ZE));have B3:=ai (Box.new (((w.alloc (.cells #[.pointer (some ⟨b,0,none⟩)] 23)).alloc (.cells #[.slice r.h.ao r.l.length r.h.cap] 22)).alloc (.cells #[.int .i64 d] 3)) #[.int .i64 0,.int .i64 0,.int .i64 0,.string ⟨#[]⟩,.int .i64 0,.slice none 0 0] 45);simp only [World.size_alloc]at B0 B1 B2 B3;have HT0:=ai (ht.mono HBW.o);have HR0:=ai (hr.mono HBW.o);have hszW:=HBW.o.size;clear ht hr hk hE;have hw1:IntKind.i64.wrap (d - 1) =d - 1:=by
  have hc:d=2∨d=3:=by omega
  rcases hc with rfl|rfl<;>rfl
 have hd1: ¬d≤1:=by omega
 go_enter Tryd.func19,Tryd.ntmps19;go_upto_region 1 with(fail)
 have HSW:=ai (show((((w.alloc (.cells #[.pointer (some ⟨b,0,none⟩)] 23)).alloc (.cells #[.slice r.h.ao r.l.length r.h.cap] 22)).alloc (.cells #[.int .i64 d] 3)).alloc (.cells #[.int .i64 0,.int .i64 0,.int .i64 0,.string ⟨#[]⟩,.int .i64 0,.slice none 0 0] 45)).heap.size=w.heap.size+4 from by simp)
 generalize (((w.alloc (.cells #[.pointer (some ⟨b,0,none⟩)] 23)).alloc (.cells #[.slice r.h.ao r.l.length r.h.cap] 22)).alloc (.cells #[.int .i64 d] 3)).alloc (.cells #[.int .i64 0,.int .i64 0,.int .i64 0,.string ⟨#[]⟩,.int .i64 0,.slice none 0 0] 45) =W at *;have hws:W.heap.size=w.heap.size+4:=HSW.o;have HG0:=ai (World.grownBy.refl W (some b));have HWG:=ai (show w.grownBy W (some b)from only_below HBW.o _)
 have hmf: ∀(fn:Fn) (first cap:Array Value) (w:World),(Instr.makeFunc fn first cap).run Tryd.prog w = .ok (.func fn first cap) w:=fun _ _ _ _=>rfl
 have x0:=B0.o.cell (j:=0) rfl
 have x1:=B1.o.cell (j:=0) rfl
 have x2:=B2.o.cell (j:=0) rfl
 have hr1:=L.next_ok a (n:=4) (by decide)
 rw [hm1]at hr1;have HN1:=ai hm1;clear hm1;have hr2:=L.next_ok (a+1) (n:=4) (by decide)
 rw [hm2]at hr2;have HN2:=ai hm2;clear hm2;subst h1;have hm1_0: (m1 == 0) =false:=beq_eq_false_iff_ne.2 (by omega)
 go_upto_region 8 with(first
  | (go_at_call 19;refine(HEE.o _ b a1 L r k HK64.o (HT3.o.mono (belA _)) (by omega) ⟨row_grown HR0.o.1 (HG3.o.trans (only_below (belA _) _)) hrb,HR0.o.2⟩ hrn hrb).mono ?_;rintro e v4 ⟨⟨p,rfl,hi1,hf1,hs2,hk2⟩,⟨a2,ha2,hb2,ht1⟩,hg1⟩;have HK2:=ai hk2;clear hk2;have HI2:=ai hi1;have HF2:=ai (hf1.mono (Nat.le_trans HG3.o.size (belA _).size));have HT4:=ai ht1;have HG34:=ai hg1;clear hi1 hf1 ht1 hg1)
  | (go_at_call 19;refine(HEE.o _ b (a+1+1) L r 2 rfl HT2.o (by omega) ⟨row_grown HR0.o.1 HG2.o hrb,HR0.o.2⟩ hrn hrb).mono ?_;rintro e v3 ⟨⟨q,rfl,hi1,hf1,hs1,hk1⟩,⟨a1,ha1,hb1,ht1⟩,hg1⟩;have HK1:=ai hk1;clear hk1;have HI1:=ai hi1;have HF1:=ai (hf1.mono HG2.o.size);have HT3:=ai ht1;have HG3:=ai (HG2.o.trans hg1);have HGL:=ai hg1;clear hi1 hf1 ht1 hg1;have z0_3:=((B0.o.grown HG3.o (by simp;omega)).below (belA (.cells #[.int .i64 q.op,.int .i64 q.typ,.int .i64 q.num,.string q.text,.int .i64 q.col,.slice q.kh.ao q.kids.length q.kh.cap] 45))).cell (j:=0) rfl;have z1_3:=((B1.o.grown HG3.o (by simp;omega)).below (belA (.cells #[.int .i64 q.op,.int .i64 q.typ,.int .i64 q.num,.string q.text,.int .i64 q.col,.slice q.kh.ao q.kids.length q.kh.cap] 45))).cell (j:=0) rfl;have z2_3:=((B2.o.grown HG3.o (by simp;omega)).below (belA (.cells #[.int .i64 q.op,.int .i64 q.typ,.int .i64 q.num,.string q.text,.int .i64 q.col,.slice q.kh.ao q.kids.length q.kh.cap] 45))).cell (j:=0) rfl)
  | (go_at_call 10;refine(next_any _ b (a+1) L _ HT1.o (by omega) (by omega) ⟨by omega,by omega⟩).mono ?_;rintro e v2 ⟨rfl,htt,hgg⟩;rw [HN2.o];have HT2:=ai htt;have HG2:=ai (HG1.o.trans hgg);clear htt hgg;have y0_2:=(B0.o.grown HG2.o (by simp;omega)).cell (j:=0) rfl;have y1_2:=(B1.o.grown HG2.o (by simp;omega)).cell (j:=0) rfl;have y2_2:=(B2.o.grown HG2.o (by simp;omega)).cell (j:=0) rfl)
  | (go_at_call 10;refine(next_any _ b a L _ HT0.o (by omega) (by omega) ⟨by omega,by omega⟩).mono ?_;rintro e v1 ⟨rfl,htt,hgg⟩;rw [HN1.o];have HT1:=ai htt;have HG1:=ai (HG0.o.trans hgg);clear htt hgg;have y0_1:=(B0.o.grown HG1.o (by simp;omega)).cell (j:=0) rfl;have y1_1:=(B1.o.grown HG1.o (by simp;omega)).cell (j:=0) rfl;have y2_1:=(B2.o.grown HG1.o (by simp;omega)).cell (j:=0) rfl))
 generalize hV:v4.alloc (.cells #[.int .i64 p.op,.int .i64 p.typ,.int .i64 p.num,.string p.text,.int .i64 p.col,.slice p.kh.ao p.kids.length p.kh.cap] 45) =V;have HPB:=ai (show Box V v4.heap.size p.cells.toArray 45 from hV▸Box.new v4 p.cells.toArray 45)
 have HBV:=ai (show Below v4.heap.size v4 V from hV▸belA _)
 clear hV;have hs3:=HG3.o.size;have hs4:=HG34.o.size;simp only [World.size_alloc]at hs4;have hs5:=HBV.o.size;have HG4:=ai ((HG3.o.trans (only_below (belA (.cells #[.int .i64 q.op,.int .i64 q.typ,.int .i64 q.num,.string q.text,.int .i64 q.col,.slice q.kh.ao q.kids.length q.kh.cap] 45)) _)).trans HG34.o);have HGV:=ai (HG4.o.trans (only_below HBV.o _));have HQB:=ai (((Box.new v3 q.cells.toArray 45).grown HG34.o (by simp;omega)).below HBV.o)
 have HIQ:=ai (((HI1.o.mono (belA (.cells #[.int .i64 q.op,.int .i64 q.typ,.int .i64 q.num,.string q.text,.int .i64 q.col,.slice q.kh.ao q.kids.length q.kh.cap] 45))).grown HF1.o HG34.o (by omega)).mono HBV.o)
 have HIP:=ai (HI2.o.mono HBV.o);have HTV:=ai (HT4.o.mono HBV.o);have hpl:=HPB.o.lt;clear HI1 HI2 HT4 HT3 HT2 HT1 HBV x0 x1 x2;have z0: ∀w',Kept b (w.heap.size+1+1+1) V w'→w'.cell? ⟨w.heap.size,0,none⟩ =some (.pointer (some ⟨b,0,none⟩)):=fun w' h=>(h.box (B0.o.grown HGV.o (by simp;omega)) (by omega) (by omega)).cell (j:=0) rfl
 have z1: ∀w',Kept b (w.heap.size+1+1+1) V w'→w'.cell? ⟨w.heap.size+1,0,none⟩ =some (.slice r.h.ao r.l.length r.h.cap):=fun w' h=>(h.box (B1.o.grown HGV.o (by simp;omega)) (by omega) (by omega)).cell (j:=0) rfl
 have z2: ∀w',Kept b (w.heap.size+1+1+1) V w'→w'.cell? ⟨w.heap.size+1+1,0,none⟩ =some (.int .i64 d):=fun w' h=>(h.box (B2.o.grown HGV.o (by simp;omega)) (by omega) (by omega)).cell (j:=0) rfl
 have qb0: ∀w',Kept b (w.heap.size+1+1+1) V w'→w'.cell? ⟨v3.heap.size,0,none⟩ =some (.int .i64 q.op):=fun w' h=>(h.box HQB.o (by omega) (by omega)).cell (j:=0) rfl
 have qb1: ∀w',Kept b (w.heap.size+1+1+1) V w'→w'.cell? ⟨v3.heap.size,1,none⟩ =some (.int .i64 q.typ):=fun w' h=>(h.box HQB.o (by omega) (by omega)).cell (j:=1) rfl
 have qb2: ∀w',Kept b (w.heap.size+1+1+1) V w'→w'.cell? ⟨v3.heap.size,2,none⟩ =some (.int .i64 q.num):=fun w' h=>(h.box HQB.o (by omega) (by omega)).cell (j:=2) rfl
 have qb3: ∀w',Kept b (w.heap.size+1+1+1) V w'→w'.cell? ⟨v3.heap.size,3,none⟩ =some (.string q.text):=fun w' h=>(h.box HQB.o (by omega) (by omega)).cell (j:=3) rfl
 have qb4: ∀w',Kept b (w.heap.size+1+1+1) V w'→w'.cell? ⟨v3.heap.size,4,none⟩ =some (.int .i64 q.col):=fun w' h=>(h.box HQB.o (by omega) (by omega)).cell (j:=4) rfl
 have qb5: ∀w',Kept b (w.heap.size+1+1+1) V w'→w'.cell? ⟨v3.heap.size,5,none⟩ =some (.slice q.kh.ao q.kids.length q.kh.cap):=fun w' h=>(h.box HQB.o (by omega) (by omega)).cell (j:=5) rfl
 have pb0: ∀w',Kept b (w.heap.size+1+1+1) V w'→w'.cell? ⟨v4.heap.size,0,none⟩ =some (.int .i64 p.op):=fun w' h=>(h.box HPB.o (by omega) (by omega)).cell (j:=0) rfl
 have pb1: ∀w',Kept b (w.heap.size+1+1+1) V w'→w'.cell? ⟨v4.heap.size,1,none⟩ =some (.int .i64 p.typ):=fun w' h=>(h.box HPB.o (by omega) (by omega)).cell (j:=1) rfl
 have pb2: ∀w',Kept b (w.heap.size+1+1+1) V w'→w'.cell? ⟨v4.heap.size,2,none⟩ =some (.int .i64 p.num):=fun w' h=>(h.box HPB.o (by omega) (by omega)).cell (j:=2) rfl
 have pb3: ∀w',Kept b (w.heap.size+1+1+1) V w'→w'.cell? ⟨v4.heap.size,3,none⟩ =some (.string p.text):=fun w' h=>(h.box HPB.o (by omega) (by omega)).cell (j:=3) rfl
 have pb4: ∀w',Kept b (w.heap.size+1+1+1) V w'→w'.cell? ⟨v4.heap.size,4,none⟩ =some (.int .i64 p.col):=fun w' h=>(h.box HPB.o (by omega) (by omega)).cell (j:=4) rfl
 have pb5: ∀w',Kept b (w.heap.size+1+1+1) V w'→w'.cell? ⟨v4.heap.size,5,none⟩ =some (.slice p.kh.ao p.kids.length p.kh.cap):=fun w' h=>(h.box HPB.o (by omega) (by omega)).cell (j:=5) rfl
 go_region_held3 (fun w'=>Kept b (w.heap.size+1+1+1) V w') ((with_reducible first|exact Kept.drew (Kept.refl _ _ _) |exact Kept.grown (by assumption) (by assumption) |exact Kept.alloc (by assumption) _|exact Kept.set (Kept.set (Kept.set (Kept.set (Kept.set (Kept.set (by assumption) _ _) _ _) _ _) _ _) _ _) _ _))
  (first
   | (go_at_call 19;refine(HEE.o _ b a2 L r k HK64.o (HTV.o.mono (bel_self _)) (by omega) (IL.In.mono ⟨row_grown HR0.o.1 HGV.o hrb,HR0.o.2⟩ (bel_self _)) hrn hrb).mono ?_;rintro e v5 ⟨⟨s,rfl,hi1,hf1,hs6,hk6⟩,⟨a3,ha3,hb3,ht1⟩,hg1⟩;clear hk6;have HI5:=ai hi1;have HF5:=ai hf1;have HT5:=ai ht1;have HG5:=ai (gb_drew hg1);clear hi1 hf1 ht1;have hkb:=(B3.o.grown (HGV.o.trans HG5.o) (by simp;omega)).below (belA (.cells #[.int .i64 q.op,.int .i64 q.typ,.int .i64 q.num,.string q.text,.int .i64 q.col,.slice q.kh.ao q.kids.length q.kh.cap,.int .i64 p.op,.int .i64 p.typ,.int .i64 p.num,.string p.text,.int .i64 p.col,.slice p.kh.ao p.kids.length p.kh.cap,.int .i64 s.op,.int .i64 s.typ,.int .i64 s.num,.string s.text,.int .i64 s.col,.slice s.kh.ao s.kids.length s.kh.cap] 45));have e0:=hkb.cell (j:=0) rfl;have f0:=hkb.fr 0;have e1:=hkb.cell (j:=1) rfl;have f1:=hkb.fr 1;have e2:=hkb.cell (j:=2) rfl;have f2:=hkb.fr 2;have e3:=hkb.cell (j:=3) rfl;have f3:=hkb.fr 3;have e4:=hkb.cell (j:=4) rfl;have f4:=hkb.fr 4;have e5:=hkb.cell (j:=5) rfl;have f5:=hkb.fr 5;clear hkb))
 have hsv:=HG5.o.size;have hin: (nodeEx 26 v5.heap.size 3 [q,p,s]).In (v5.alloc (.cells ([q,p,s].flatMap Ex.cells).toArray 45)):=node_in (by constructor<;>decide) (fun x hx=>by
  simp only [List.mem_cons,List.not_mem_nil,or_false]at hx;rcases hx with rfl|rfl|rfl
  ·exact(HIQ.o.grown HF1.o HG5.o (by omega)).mono (belA _)
  ·exact(HIP.o.grown HF2.o HG5.o (by omega)).mono (belA _)
  ·exact HI5.o.mono (belA _)) (by simp) (Box.new v5 _ _)
 have hfr: (nodeEx 26 v5.heap.size 3 [q,p,s]).Fresh W.heap.size:=node_fresh (by omega) (fun x hx=>by
  simp only [List.mem_cons,List.not_mem_nil,or_false]at hx;rcases hx with rfl|rfl|rfl
  ·exact HF1.o
  ·exact HF2.o
  ·exact HF5.o.mono (by show W.heap.size≤V.heap.size;omega))
 have hsq: (nodeEx 26 v5.heap.size 3 [q,p,s]).size≤1+4*N:=by rw [Ex.size_eq];simp only [Ex.sizes];omega
 have HF:=ai (ex_done (ts:=r.l) (w:=w) (b:=b) (a:=a) (n:=10+5*n) (N:=1+4*N) (L:=L) (g:=w.heap.size+1+1+1) (B:=W.heap.size) (e:=nodeEx 26 v5.heap.size 3 [q,p,s]) hin hfr (by omega) (by omega) hsq (by omega) (by omega) (HT5.o.mono (belA _)) ((HWG.o.trans (HGV.o.trans HG5.o)).trans (only_below (belA _) _)) HLW.o (tyk_case HK2.o))
 clear hin hfr hsq;clear z0 z1 z2 qb0 qb1 qb2 qb3 qb4 qb5 pb0 pb1 pb2 pb3 pb4 pb5;go_wp2_with fail
 exact bodyPost_ret (v:=.agg #[.int .i64 26,.int .i64 0,.int .i64 0,.string ⟨#[]⟩,.int .i64 0,.slice (some ⟨v5.heap.size,0,none⟩) 3 3]) (by simp [results,Tryd.results19,go_sem,e0,e1,e2,e3,e4,e5]) rfl HF.o
end Go.Proofs.YtogalchclmmfgaaDoor

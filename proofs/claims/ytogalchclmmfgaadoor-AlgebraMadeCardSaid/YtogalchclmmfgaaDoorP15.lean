/- A part of the proof of AlgebraMade. -/
import Derived.Test.YtogalchclmmfgaaDoorP13
set_option maxRecDepth 100000
set_option maxHeartbeats 16000000
namespace Go.Proofs.YtogalchclmmfgaaDoor
open Go.RowKit
def Tri (b:Nat) (r:IL) (d:Int) (g:Nat) (x:World) :Prop:=Box x g #[.pointer (some ⟨b,0,none⟩)] 23∧Box x (g+1) #[.slice r.h.ao r.l.length r.h.cap] 22∧Box x (g+1+1) #[.int .i64 d] 3
def Past3 (g c:Nat) :Prop:=c≠g∧c≠g+1∧c≠g+1+1
theorem Tri.grown {b g c:Nat} {r:IL} {d:Int} {x y:World} (hg:x.grownBy y (some c)) (h:Tri b r d g x) (hc:Past3 g c) :Tri b r d g y:=
 ⟨h.1.grown hg (by have:=hc.1;simp;omega),h.2.1.grown hg (by have:=hc.2.1;simp;omega),h.2.2.grown hg (by have:=hc.2.2;simp;omega)⟩
theorem Tri.drew {b g:Nat} {r:IL} {d:Int} {x:World} (h:Tri b r d g x) :Tri b r d g x.drew:=h
theorem Tri.alloc {b g:Nat} {r:IL} {d:Int} {x:World} (h:Tri b r d g x) (o:Obj) :Tri b r d g (x.alloc o):=⟨h.1.below (belA o),h.2.1.below (belA o),h.2.2.below (belA o)⟩
structure InI (W x:World) (c N:Nat) (xs:List Ex) (g cap:Nat) :Prop where
 bx:Box x c #[.int .i64 28,.int .i64 0,.int .i64 0,.string ⟨#[]⟩,.int .i64 0,.slice (some ⟨g,0,none⟩) xs.length cap] 45
 own:x.ownsRow W.heap.size 45 6 (.slice (some ⟨g,0,none⟩) xs.length cap) xs.length (xs.flatMap Ex.cells)
 ne:g≠c
 le:W.heap.size≤c
 ex: ∀e∈xs,e.In x∧e.Fresh W.heap.size∧e.size≤N∧e.Off g∧e.Off c
theorem InI.ge {W x:World} {c N:Nat} {xs:List Ex} {g cap:Nat} (h:InI W x c N xs g cap) :W.heap.size≤g:=own_ge h.own
theorem InI.lt {W x:World} {c N:Nat} {xs:List Ex} {g cap:Nat} (h:InI W x c N xs g cap) :g<x.heap.size:=(h.own.lt g rfl).2
theorem InI.go {W x y:World} {b c N:Nat} {xs:List Ex} {g cap:Nat} (h:InI W x c N xs g cap) (hb:b<W.heap.size) (hg:x.grownBy y (some b)) :InI W y c N xs g cap:=by
 have h1:=h.ge;have h2:=h.le;exact⟨h.bx.grown hg (by simp;omega),h.own.kept hg (.inr (by simp [Value.ownBlock];omega)),h.ne,h.le,fun e he=>by
  obtain⟨q1,q2,q3,q4,q5⟩:=h.ex e he;exact⟨q1.grown q2 hg hb,q2,q3,q4,q5⟩⟩
theorem InI.alloc {W x:World} {c N:Nat} {xs:List Ex} {g cap:Nat} (h:InI W x c N xs g cap) (o:Obj) :InI W (x.alloc o) c N xs g cap:=
 ⟨h.bx.below (belA o),h.own.alloc o,h.ne,h.le,fun e he=>by
  obtain⟨q1,q2⟩:=h.ex e he;exact⟨q1.mono (belA o),q2⟩⟩
theorem InI.app {W y z:World} {c N:Nat} {xs:List Ex} {g cap g2 cap2 H:Nat} {q:Ex} (h:InI W y c N xs g cap) (h1:q.In y) (h2:q.Fresh W.heap.size) (h3:q.size≤N) (h4:q.Off g) (h5:q.Off c)
  (ho:z.ownsRow W.heap.size 45 6 (.slice (some ⟨g2,0,none⟩) (xs.length+1) cap2) (xs.length+1) (xs.flatMap Ex.cells ++ q.cells)) (hg:y.grownBy z (some g)) (hat:some g=some g2∨g2=H) (hH:y.heap.size=H) :
  InI W (z.setCell ⟨c,5,none⟩ (.slice (some ⟨g2,0,none⟩) (xs.length+1) cap2)) c N (xs ++ [q]) g2 cap2:=by
 have hlc:=h.bx.lt;have hne:=h.ne;have hn2:g2≠c:=by
  rcases hat with e|e
  ·cases e;exact hne
  ·omega
 have hb:=(h.bx.grown hg (by simpa using fun e=>hne e.symm)).set 5 (.slice (some ⟨g2,0,none⟩) (xs.length+1) cap2)
 refine⟨?_,?_,hn2,h.le,?_⟩
 ·rw [List.length_append]
  exact hb
 ·rw [List.length_append,List.flatMap_append]
  have:=ho.kept (gb_set z c 5 (.slice (some ⟨g2,0,none⟩) (xs.length+1) cap2)) (.inr (by simp [Value.ownBlock];exact hn2))
  simpa using this
 ·have key: ∀e:Ex,e.In y→e.Fresh W.heap.size→e.size≤N→e.Off g→e.Off c→e.In (z.setCell ⟨c,5,none⟩ (.slice (some ⟨g2,0,none⟩) (xs.length+1) cap2))∧e.Fresh W.heap.size∧e.size≤N∧e.Off g2∧e.Off c:=by
   intro e k1 k2 k3 k4 k5;refine⟨(k1.grownOff k4 hg).grownOff k5 (gb_set _ _ _ _),k2,k3,?_,k5⟩
   rcases hat with e'|e'
   ·cases e';exact k4
   ·exact k1.off (by omega)
  intro e he;rcases List.mem_append.1 he with he|he
  ·obtain⟨q1,q2,q3,q4,q5⟩:=h.ex e he
   exact key e q1 q2 q3 q4 q5
  ·rw [List.mem_singleton.1 he]
   exact key q h1 h2 h3 h4 h5
structure InCall (W x v:World) (b c N n:Nat) (L:IL) (xs:List Ex) (g cap:Nat) (q:Ex) (a a':Nat) :Prop where
 ini:InI W v c N xs g cap
 inn:q.In v
 fresh:q.Fresh x.heap.size
 sz:q.size≤N
 lo:a≤a'
 hi:a'≤a+n
 tp:TapeIn v b L a'
 gb:W.grownBy v (some b)
 size:x.heap.size≤v.heap.size
theorem six_one (q:Ex) : ∀u∈q.cells,u.oneCell'=true:=by
 intro u hu;simp only [List.mem_cons,List.not_mem_nil,or_false]at hu;rcases hu with rfl|rfl|rfl|rfl|rfl|rfl<;>rfl
theorem InCall.app {W x v z:World} {b c N n:Nat} {L:IL} {xs:List Ex} {g cap:Nat} {q:Ex} {a a' g2 cap2:Nat} (h:InCall W x v b c N n L xs g cap q a a') (hB:b<W.heap.size∧(0<L.l.length→L.h.b<W.heap.size)) (hW:W.heap.size≤x.heap.size)
  (ho:z.ownsRow W.heap.size 45 6 (.slice (some ⟨g2,0,none⟩) (xs.length+1) cap2) (xs.length+1) (xs.flatMap Ex.cells ++ q.cells)) (hg: (v.alloc (.cells q.cells.toArray 45)).grownBy z (some g)) (hat:some g=some g2∨g2=v.heap.size+1) (hgx:g<x.heap.size) (hcx:c<x.heap.size) :
  Box z c #[.int .i64 28,.int .i64 0,.int .i64 0,.string ⟨#[]⟩,.int .i64 0,.slice (some ⟨g,0,none⟩) xs.length cap] 45∧
  InI W (z.setCell ⟨c,5,none⟩ (.slice (some ⟨g2,0,none⟩) (xs.length+1) cap2)) c N (xs ++ [q]) g2 cap2∧
  TapeIn (z.setCell ⟨c,5,none⟩ (.slice (some ⟨g2,0,none⟩) (xs.length+1) cap2)) b L a'∧
  W.grownBy (z.setCell ⟨c,5,none⟩ (.slice (some ⟨g2,0,none⟩) (xs.length+1) cap2)) (some b):=by
 have hge:=h.ini.ge;have hle:=h.ini.le;have hi:=h.ini.alloc (.cells q.cells.toArray 45);refine⟨hi.bx.grown hg (by have:=h.ini.ne;simp;omega),hi.app (h.inn.mono (belA _)) (h.fresh.mono hW) h.sz (h.fresh.off hgx) (h.fresh.off hcx) ho hg hat (by simp),?_,?_⟩
 ·exact tz2 (tz2 (h.tp.mono (belA _)) hg hB hge) (gb_set _ _ _ _) hB hle
 ·exact gb_then (gb_then (h.gb.trans (only_below (belA _) _)) hg hge) (gb_set _ _ _ _) hle
theorem sizes_le {N:Nat} : ∀ {xs:List Ex},(∀e∈xs,e.size≤N)→Ex.sizes xs≤xs.length*N
 | [],_=>by simp [Ex.sizes]
 | x :: xs,h=>by
  have h1:=h x (by simp)
  have h2:=sizes_le (xs:=xs) (fun e he=>h e (by simp [he]))
  simp only [Ex.sizes,List.length_cons,Nat.add_mul];omega
theorem sizes_le4 {N:Nat} {xs:List Ex} (h: ∀e∈xs,e.size≤N) (hl:xs.length≤4) :Ex.sizes xs≤4*N:=Nat.le_trans (sizes_le h) (Nat.mul_le_mul_right _ hl)
theorem expr_in {d:Int} (hd:2≤d∧d≤3) {n N:Nat} (hE:ExprAt n N (d - 1)) (w:World) (b a:Nat) (L r:IL) (k:Int) (hk:isT k=true) (ht:TapeIn w b L a) (ha:a+ (10+5*n)≤4611686018427370000) (hr:r.In w) (hrn:r.l.length≤1000) (hrb:0<r.l.length→r.h.b≠b) (m1:Int) (hm1:L.next a 4=m1) (m2:Int) (hm2:L.next (a+1) 4=m2) (m3:Int) (hm3:L.next (a+1+1) 3=m3) (m4:Int) (hm4:L.next (a+1+1+1) 6=m4) (h0:m1≠0) (h1:2≤m2) (hk0:k=2) (h3:m4=3) :
  Calls Tryd.prog 19 #[.pointer (some ⟨b,0,none⟩),.slice r.h.ao r.l.length r.h.cap,.int .i64 k,.int .i64 d] w fun e w'=>ExOut r.l k w w' b a (10+5*n) (1+4*N) L e:=by
 have hbl:=ht.lt;have hn:=hr.1.len;have HLW:=ai ht.low;have HK64:=ai hk;have HEE:=ai hE;have HBW:=ai (((belAA (w:=w) (.cells #[.pointer (some ⟨b,0,none⟩)] 23) (.cells #[.slice r.h.ao r.l.length r.h.cap] 22)).alloc (by simp only [World.size_alloc];omega) (.cells #[.int .i64 d] 3)).alloc (by simp only [World.size_alloc];omega) ZE)
 have B0:=ai ((((Box.new w #[.pointer (some ⟨b,0,none⟩)] 23).below (belA (.cells #[.slice r.h.ao r.l.length r.h.cap] 22))).below (belA (.cells #[.int .i64 d] 3))).below (belA ZE));have B1:=ai ((((Box.new (w.alloc (.cells #[.pointer (some ⟨b,0,none⟩)] 23)) #[.slice r.h.ao r.l.length r.h.cap] 22)).below (belA (.cells #[.int .i64 d] 3))).below (belA ZE));have B2:=ai (((Box.new ((w.alloc (.cells #[.pointer (some ⟨b,0,none⟩)] 23)).alloc (.cells #[.slice r.h.ao r.l.length r.h.cap] 22)) #[.int .i64 d] 3)).below (belA ZE));have B3:=ai (Box.new (((w.alloc (.cells #[.pointer (some ⟨b,0,none⟩)] 23)).alloc (.cells #[.slice r.h.ao r.l.length r.h.cap] 22)).alloc (.cells #[.int .i64 d] 3)) #[.int .i64 0,.int .i64 0,.int .i64 0,.string ⟨#[]⟩,.int .i64 0,.slice none 0 0] 45);simp only [World.size_alloc]at B0 B1 B2 B3;have HT0:=ai (ht.mono HBW.o);have HR0:=ai (hr.mono HBW.o);have hszW:=HBW.o.size;clear ht hr hk hE;have hw1:IntKind.i64.wrap (d - 1) =d - 1:=by
  have hc:d=2∨d=3:=by omega
  rcases hc with rfl|rfl<;>rfl
 have hd1: ¬d≤1:=by omega
 go_enter Tryd.func19,Tryd.ntmps19;go_upto_region 1 with(fail)
 have HSW:=ai (show((((w.alloc (.cells #[.pointer (some ⟨b,0,none⟩)] 23)).alloc (.cells #[.slice r.h.ao r.l.length r.h.cap] 22)).alloc (.cells #[.int .i64 d] 3)).alloc (.cells #[.int .i64 0,.int .i64 0,.int .i64 0,.string ⟨#[]⟩,.int .i64 0,.slice none 0 0] 45)).heap.size=w.heap.size+4 from by simp)
 generalize (((w.alloc (.cells #[.pointer (some ⟨b,0,none⟩)] 23)).alloc (.cells #[.slice r.h.ao r.l.length r.h.cap] 22)).alloc (.cells #[.int .i64 d] 3)).alloc (.cells #[.int .i64 0,.int .i64 0,.int .i64 0,.string ⟨#[]⟩,.int .i64 0,.slice none 0 0] 45) =W at *;have hws:W.heap.size=w.heap.size+4:=HSW.o;have HG0:=ai (World.grownBy.refl W (some b));have HWG:=ai (show w.grownBy W (some b)from only_below HBW.o _)
 have hmf: ∀(fn:Fn) (first cap:Array Value) (w:World),(Instr.makeFunc fn first cap).run Tryd.prog w = .ok (.func fn first cap) w:=fun _ _ _ _=>rfl
 have x0:=B0.o.cell (j:=0) rfl
 have x1:=B1.o.cell (j:=0) rfl
 have x2:=B2.o.cell (j:=0) rfl
 have hr1:=L.next_ok a (n:=4) (by decide)
 rw [hm1]at hr1;have HN1:=ai hm1;clear hm1;have hr2:=L.next_ok (a+1) (n:=4) (by decide)
 rw [hm2]at hr2;have HN2:=ai hm2;clear hm2;have hr3:=L.next_ok (a+1+1) (n:=3) (by decide)
 rw [hm3]at hr3;have HN3:=ai hm3;clear hm3;have hr4:=L.next_ok (a+1+1+1) (n:=6) (by decide)
 rw [hm4]at hr4;have HN4:=ai hm4;clear hm4;subst h3;subst hk0;have hm1_0: (m1 == 0) =false:=beq_eq_false_iff_ne.2 (by omega)
 have hm2_0: (m2 == 0) =false:=beq_eq_false_iff_ne.2 (by omega)
 have hm2_1: (m2 == 1) =false:=beq_eq_false_iff_ne.2 (by omega)
 have hx1:IntKind.i64.wrap (1+m3) =1+m3:=(by rw [IntKind.wrap_i64];omega)
 have hxt:isT (1+m3) =true:=decide_eq_true (by omega)
 obtain⟨j0,hi,hz0,hz1,hz2⟩:=info_parts info_exp;have HJ:=ai (And.intro hi (And.intro hz0 (And.intro hz1 hz2)));clear hi hz0 hz1 hz2;go_wp2_with (first
  | (go_at_call 10;refine(next_any _ b a1 L 3 (HT5.o.mono (belA _)) (by omega) (by omega) ⟨by omega,by omega⟩).mono ?_;rintro e v6 ⟨rfl,htt,hgg⟩;have HN6:=ai (L.next_ok a1 (n:=3) (by decide));have HT6:=ai htt;have HL6:=ai hgg;have HG6:=ai ((HG5.o.trans (only_below (belA (.cells #[.int .i64 28,.int .i64 0,.int .i64 0,.string ⟨#[]⟩,.int .i64 0,.slice (some ⟨g,0,none⟩) 2 2] 45)) _)).trans hgg);clear htt hgg)
  | (go_at_call 42;refine(two_any hd HEE.o _ b (a+1+1+1+1) L r _ (1+m3) hxt HT4.o (by omega) ⟨row_grown HR0.o.1 HG4.o hrb,HR0.o.2⟩ hrn hrb w.heap.size (w.heap.size+1) (w.heap.size+1+1) _ _ _ (B0.o.grown HG4.o (by simp;omega)) (B1.o.grown HG4.o (by simp;omega)) (B2.o.grown HG4.o (by simp;omega)) (by omega) (by omega) (by omega)).mono ?_;rintro e v5 ⟨⟨q1,q2,g,rfl,hx,hbx,hgg⟩,⟨a1,ha1,hb1,ht1⟩,hg1⟩;have HX:=ai hx;have HKB:=ai hbx;have HGE:=ai hgg;have HT5:=ai ht1;have HG5:=ai (HG4.o.trans hg1);have HGL:=ai hg1;clear hx hbx hgg ht1 hg1;have hzb:=Box.new v5 #[.int .i64 28,.int .i64 0,.int .i64 0,.string ⟨#[]⟩,.int .i64 0,.slice (some ⟨g,0,none⟩) 2 2] 45;have HZB:=ai hzb;have z0_5:=((B0.o.grown HG5.o (by simp;omega)).below (belA (.cells #[.int .i64 28,.int .i64 0,.int .i64 0,.string ⟨#[]⟩,.int .i64 0,.slice (some ⟨g,0,none⟩) 2 2] 45))).cell (j:=0) rfl;have z1_5:=((B1.o.grown HG5.o (by simp;omega)).below (belA (.cells #[.int .i64 28,.int .i64 0,.int .i64 0,.string ⟨#[]⟩,.int .i64 0,.slice (some ⟨g,0,none⟩) 2 2] 45))).cell (j:=0) rfl;have z2_5:=((B2.o.grown HG5.o (by simp;omega)).below (belA (.cells #[.int .i64 28,.int .i64 0,.int .i64 0,.string ⟨#[]⟩,.int .i64 0,.slice (some ⟨g,0,none⟩) 2 2] 45))).cell (j:=0) rfl;clear hzb)
  | (go_at_call 10;refine(next_any _ b (a+1+1+1) L _ HT3.o (by omega) (by omega) ⟨by omega,by omega⟩).mono ?_;rintro e v4 ⟨rfl,htt,hgg⟩;rw [HN4.o];have HT4:=ai htt;have HG4:=ai (HG3.o.trans hgg);clear htt hgg;have y0_4:=(B0.o.grown HG4.o (by simp;omega)).cell (j:=0) rfl;have y1_4:=(B1.o.grown HG4.o (by simp;omega)).cell (j:=0) rfl;have y2_4:=(B2.o.grown HG4.o (by simp;omega)).cell (j:=0) rfl)
  | (go_at_call 10;refine(next_any _ b (a+1+1) L _ HT2.o (by omega) (by omega) ⟨by omega,by omega⟩).mono ?_;rintro e v3 ⟨rfl,htt,hgg⟩;rw [HN3.o];have HT3:=ai htt;have HG3:=ai (HG2.o.trans hgg);clear htt hgg;have y0_3:=(B0.o.grown HG3.o (by simp;omega)).cell (j:=0) rfl;have y1_3:=(B1.o.grown HG3.o (by simp;omega)).cell (j:=0) rfl;have y2_3:=(B2.o.grown HG3.o (by simp;omega)).cell (j:=0) rfl)
  | (go_at_call 10;refine(next_any _ b (a+1) L _ HT1.o (by omega) (by omega) ⟨by omega,by omega⟩).mono ?_;rintro e v2 ⟨rfl,htt,hgg⟩;rw [HN2.o];have HT2:=ai htt;have HG2:=ai (HG1.o.trans hgg);clear htt hgg;have y0_2:=(B0.o.grown HG2.o (by simp;omega)).cell (j:=0) rfl;have y1_2:=(B1.o.grown HG2.o (by simp;omega)).cell (j:=0) rfl;have y2_2:=(B2.o.grown HG2.o (by simp;omega)).cell (j:=0) rfl)
  | (go_at_call 10;refine(next_any _ b a L _ HT0.o (by omega) (by omega) ⟨by omega,by omega⟩).mono ?_;rintro e v1 ⟨rfl,htt,hgg⟩;rw [HN1.o];have HT1:=ai htt;have HG1:=ai (HG0.o.trans hgg);clear htt hgg;have y0_1:=(B0.o.grown HG1.o (by simp;omega)).cell (j:=0) rfl;have y1_1:=(B1.o.grown HG1.o (by simp;omega)).cell (j:=0) rfl;have y2_1:=(B2.o.grown HG1.o (by simp;omega)).cell (j:=0) rfl))
 have hs4:=HG4.o.size;have hs5:=HGL.o.size;have HI6:=ai (show InI W v6 v5.heap.size N [q1,q2] g 2 from by
  have hgl:=HKB.o.lt;have hge:=HGE.o;have hb0:v5.ownsRow W.heap.size 45 6 (.slice (some ⟨g,0,none⟩) 2 2) 2 ([q1,q2].flatMap Ex.cells):=⟨rfl,.inr ⟨g,2,([q1,q2].flatMap Ex.cells).toArray,rfl,by omega,HKB.o,Nat.le_refl _,by decide,rfl,rfl⟩⟩
  have hex: ∀e∈ [q1,q2],e.In v5∧e.Fresh W.heap.size∧e.size≤N∧e.Off g∧e.Off v5.heap.size:=fun e he=>by
   obtain⟨p1,p2,p3,p4,_⟩:=HX.o e he;exact⟨p1,p2.mono hs4,p3,p4,p1.off (Nat.le_refl _)⟩
  refine InI.go (b:=b) ⟨HZB.o,hb0.alloc _,by omega,by omega,fun e he=> ?_⟩ (by omega) HL6.o
  obtain⟨p1,p2⟩:=hex e he;exact⟨p1.mono (belA _),p2⟩)
 obtain⟨cn,hcn⟩ : ∃cn:Nat,L.next a1 3=cn:=⟨(L.next a1 3).toNat,by have:=HN6.o.1;omega⟩
 have hc3:cn≤2:=by have:=HN6.o.2;omega
 rw [hcn];clear HT4 HT3 HT2 HT1 HT5 x0 x1 x2 hcn HN6 HX HKB HGE HZB HL6;have hvc:W.heap.size≤v5.heap.size:=by omega
 have hp3:Past3 w.heap.size v5.heap.size:=⟨by omega,by omega,by omega⟩
 have hpb:Past3 w.heap.size b:=⟨by omega,by omega,by omega⟩
 go_loopw [16] (fun t wr=>∃(i j a2:Nat) (xs:List Ex) (gk cap:Nat),t = .int .i64 i∧i+j≤2∧Hid (xs.length=2+j)∧((j=0→a2≤a+5+2*n)∧(j≤1→a2≤a+5+2*n+n)∧a2≤a+5+2*n+n+n∧a≤a2)∧Hid (InI W wr v5.heap.size N xs gk cap)∧Hid (TapeIn wr b L a2)∧Hid (W.grownBy wr (some b))) (fun t _=>(intOf t).toNat)
 case atStart=>exact⟨cn,0,a1+1,[q1,q2],g,2,rfl,by omega,rfl,⟨fun _=>by omega,fun _=>by omega,by omega,by omega⟩,HI6.o,HT6.o,HG6.o⟩
 case round=>
  obtain⟨i,j,a2,xs,gk,cap,rfl,hij,HXL,⟨hq0,hq1,hq2,hq3⟩,HIr,HTr,HGr⟩:=hrel;clear HI6 HT6 HG6;by_cases hi0:i=0
  ·subst hi0
   have hk0:=HIr.o.bx.cell (j:=0) rfl
   have hk1:=HIr.o.bx.cell (j:=1) rfl
   have hk2:=HIr.o.bx.cell (j:=2) rfl
   have hk3:=HIr.o.bx.cell (j:=3) rfl
   have hk4:=HIr.o.bx.cell (j:=4) rfl
   have hk5:=HIr.o.bx.cell (j:=5) rfl
   have hkb:=B3.o.grown HGr.o (by simp;omega)
   have e0:=hkb.cell (j:=0) rfl;have f0:=hkb.fr 0;have e1:=hkb.cell (j:=1) rfl;have f1:=hkb.fr 1;have e2:=hkb.cell (j:=2) rfl;have f2:=hkb.fr 2;have e3:=hkb.cell (j:=3) rfl;have f3:=hkb.fr 3;have e4:=hkb.cell (j:=4) rfl;have f4:=hkb.fr 4;have e5:=hkb.cell (j:=5) rfl;have f5:=hkb.fr 5
   clear hkb;have hsr:=HGr.o.size;have hge:=HIr.o.ge;have hin: (nodeEx 28 gk cap xs).In wr:=⟨_,⟨(show int64 28 by constructor<;>decide),z64,z64,by show(0:Nat)≤maxLen;omega,z64⟩,own_row2 exl (by decide) HIr.o.own,fun e he=>(HIr.o.ex e he).1⟩
   have hfr: (nodeEx 28 gk cap xs).Fresh W.heap.size:=node_fresh hge (fun e he=>(HIr.o.ex e he).2.1)
   have hsq: (nodeEx 28 gk cap xs).size≤1+4*N:=by
    rw [Ex.size_eq];have:=sizes_le4 (N:=N) (xs:=xs) (fun e he=>(HIr.o.ex e he).2.2.1) (by have:=HXL.o;omega)
    show 1+Ex.sizes xs≤1+4*N
    omega
   have HF:=ai (ex_done (w:=w) (b:=b) (a:=a) (n:=10+5*n) (N:=1+4*N) (L:=L) (g:=w.heap.size+1+1+1) (B:=W.heap.size) (ts:=r.l) (e:=nodeEx 28 gk cap xs) hin hfr (by omega) (by omega) hsq (by omega) (by omega) HTr.o (HWG.o.trans HGr.o) HLW.o (tyk_bool (by omega)))
   clear hin hfr hsq;go_wp2_with fail
   exact bodyPost_ret (v:=.agg #[.int .i64 28,.int .i64 0,.int .i64 0,.string ⟨#[]⟩,.int .i64 0,.slice (some ⟨gk,0,none⟩) xs.length cap]) (by simp [results,Tryd.results19,go_sem,e0,e1,e2,e3,e4,e5]) rfl HF.o
  ·obtain⟨i,rfl⟩ : ∃i',i=i'+1:=⟨i - 1,by omega⟩
   have hip: (0:Int) < ((i+1:Nat) :Int):=by omega
   have hib:IntKind.i64.wrap (((i+1:Nat) :Int) - 1) = (i:Int):=by rw [IntKind.wrap_i64];omega
   have hgk:=HIr.o.ge;have hgl:=HIr.o.lt;have hcl:=HIr.o.bx.lt;have hpg:Past3 w.heap.size gk:=⟨by omega,by omega,by omega⟩
   have hT0:Tri b r d w.heap.size wr:=⟨B0.o.grown HGr.o (by simp;omega),B1.o.grown HGr.o (by simp;omega),B2.o.grown HGr.o (by simp;omega)⟩
   have z0: ∀w',Tri b r d w.heap.size w'→w'.cell? ⟨w.heap.size,0,none⟩ =some (.pointer (some ⟨b,0,none⟩)):=fun w' h=>h.1.cell (j:=0) rfl
   have z1: ∀w',Tri b r d w.heap.size w'→w'.cell? ⟨w.heap.size+1,0,none⟩ =some (.slice r.h.ao r.l.length r.h.cap):=fun w' h=>h.2.1.cell (j:=0) rfl
   have z2: ∀w',Tri b r d w.heap.size w'→w'.cell? ⟨w.heap.size+1+1,0,none⟩ =some (.int .i64 d):=fun w' h=>h.2.2.cell (j:=0) rfl
   have k0:wr.cell? ⟨v5.heap.size,5,none⟩ =some (.slice (some ⟨gk,0,none⟩) xs.length cap):=HIr.o.bx.cell (j:=5) rfl
   have HCALL:=ai (show Calls Tryd.prog 19 #[.pointer (some ⟨b,0,none⟩),.slice r.h.ao r.l.length r.h.cap,.int .i64 (1+m3),.int .i64 (d - 1)] wr.drew fun e v7=>∃q a3,e = .returned (.agg #[.int .i64 q.op,.int .i64 q.typ,.int .i64 q.num,.string q.text,.int .i64 q.col,.slice q.kh.ao q.kids.length q.kh.cap])∧InCall W wr v7 b v5.heap.size N n L xs gk cap q a2 a3 from by
    refine(HEE.o _ b a2 L r (1+m3) hxt (HTr.o.mono (bel_self _)) (by omega) (IL.In.mono ⟨row_grown HR0.o.1 HGr.o hrb,HR0.o.2⟩ (bel_self _)) hrn hrb).mono ?_
    rintro e v7 ⟨⟨q,rfl,hi1,hf1,hs7,_⟩,⟨a3,ha3,hb3,htt⟩,hgg⟩;exact⟨q,a3,rfl,⟨HIr.o.go (by omega) (gb_drew hgg),hi1,hf1,hs7,ha3,hb3,htt,HGr.o.trans (gb_drew hgg),(gb_drew hgg).size⟩⟩)
   have HBN:=ai (show b<W.heap.size∧(0<L.l.length→L.h.b<W.heap.size)from⟨by omega,fun hp=>by have:=HLW.o.2 hp;omega⟩)
   have hxm:xs.length≤4:=by have:=HXL.o;omega
   have y0:=(B0.o.grown HGr.o (by simp;omega)).cell (j:=0) rfl
   have y1:=(B1.o.grown HGr.o (by simp;omega)).cell (j:=0) rfl
   have y2:=(B2.o.grown HGr.o (by simp;omega)).cell (j:=0) rfl
   go_wp2_with fail
   go_region_law
    (first
     | (go_simp;go_at_call 19;refine HCALL.o.mono ?_;rintro e v7 ⟨q,a3,rfl,hpk⟩;have HPK:=ai hpk;have k7:=hpk.ini.bx.cell (j:=5) rfl;have k8:=(hpk.ini.alloc (.cells #[.int .i64 q.op,.int .i64 q.typ,.int .i64 q.num,.string q.text,.int .i64 q.col,.slice q.kh.ao q.kids.length q.kh.cap] 45)).bx.cell (j:=5) rfl;clear hpk)
     | (refine step_append_lies _ (by rfl) _ _ _ (by rfl) W.heap.size 45 j0 _ 6 72 Tryd.underlying37 HJ.o.1 HJ.o.2.1 HJ.o.2.2.1 HJ.o.2.2.2 rfl (by decide) (.slice (some ⟨gk,0,none⟩) xs.length cap) xs.length (xs.flatMap Ex.cells) (by rfl) (HPK.o.ini.alloc _).own ⟨v7.heap.size,0,none⟩ 1 1 [.int .i64 q.op,.int .i64 q.typ,.int .i64 q.num,.string q.text,.int .i64 q.col,.slice q.kh.ao q.kids.length q.kh.cap] (by rfl) (by rfl) new_cells (six_one q) (by decide) (by unfold maxLen;omega) (by omega) (by have h1:=HPK.o.size;have h2:=HGr.o.size;simp only [World.size_alloc];omega) (v7.heap.size+1) (by simp) ?_;intro g2 cap2 z hown hgr hat _;have HAP:=ai (HPK.o.app HBN.o HGr.o.size hown hgr hat (by omega) (by omega));have kz:=HAP.o.1.cell (j:=5) rfl;have fz:=HAP.o.1.fr 5;clear hown hgr hat))
   all_goals
    clear y0 y1 y2 HCALL;go_wp2_with fail
    go_roundw
    case rel=>exact⟨i,j+1,a3,xs ++ [q],g2,cap2,rfl,by omega,by have:=HXL.o;show(xs ++ [q]).length=2+ (j+1);rw [List.length_append];simp;omega,⟨fun h=>by have:=HPK.o.lo;have:=HPK.o.hi;omega,fun h=>by have:=HPK.o.lo;have:=HPK.o.hi;omega,by have:=HPK.o.lo;have:=HPK.o.hi;omega,by have:=HPK.o.lo;have:=HPK.o.hi;omega⟩,HAP.o.2.1,HAP.o.2.2.1,HAP.o.2.2.2⟩
    case measure=>simp [intOf]
end Go.Proofs.YtogalchclmmfgaaDoor

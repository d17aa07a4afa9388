/- A part of the proof of AlgebraMade. -/
import Derived.Test.YtogalchclmmfgaaDoorP45
import Derived.Deep.RegionHeld3
import Derived.Deep.RegionLaw
import Derived.Deep.DeepCutAuto
set_option maxRecDepth 100000
set_option maxHeartbeats 16000000
namespace Go.Proofs.YtogalchclmmfgaaDoor
open Go.RowKit
theorem qcase_join (HE2:Hid (ExprAt 20 5 2)) (HE3:Hid (ExprAt 110 21 3)) {n N:Nat} {d:Int} (hd:2≤d∧d≤4) (hn:n≤100000) (HQY:Hid (QryAt n N (d - 1))) (w x2:World) (b a p g:Nat) (L:IL) (s:Sch) (E:Nat) (qa:Qu) (oa:IL) (ha:a+ (2*n+250)≤4611686018427370000) (hpa:a≤p∧p≤a+1+n) (HP2:Hid (QP w x2 b (p+1) L s E qa oa g N)) {Q:Exit→Act→World→Prop} {c:Code} {s1 s3 s5 s7 s8 s9 Aa Al Ce Cp Da Dl Dt Du Dv Dw Dx Dy Dz Ec Ed Ee Ef Eg Eh Ei Ej Ek El Em En Eo Ep Er Es Et Eu Ev Ew Ey Ez Fa Fb Fc Fd Fe Ff Fg Fh Fi Fj Fk Fl Fm Fo Fp Fq Fr Fs Ft Fu Fv Fw Fx Fy Fz Ga Gb Gc Gd Ge Gf Gg Gh Gi Gj Gk Gl Gm Gn Gp Gq Gr Gs Gt Gu Gv Gw Gx Gy Gz Ha Hb Ab Ac Ad Ae Af Ag Ah Ai Aj Ak Am Ao Ap Aq Ar At Au Av Aw Ax Ay Az Bc Bd Be Bf Bg Bh Bi Bj Bk Bl Bm Bn Bo Bp Bq Br Bs Bt Bu Bv Bw Bx By Bz Ca Cb Cc Cd Cf Cg Ch Ci Cj Ck Cl Cm Cn Co Cq Cr Cs Ct Cu Cv Cw Cx Cy Cz Db Dc Dd De Df Dg Dh Di Dj Dk Dm Dn Dp Dq Dr Ds:Value} (hc:c=codeAt [1,1,1,1,1,0] qbody) (hN: ∀a' x,Code.wp Tryd.prog (codeAt [1,1,1,1,1,1] qbody) (bodyPost Tryd.prog Tryd.f13 (fun e w'=>QOut s w w' b a (2*n+250) (2*N+60) L e)) a' x→Q Exit.normal a' x) :
  Code.wp Tryd.prog c Q { tmps:=#[.pointer (some ⟨b,0,none⟩),s1,.int .i64 d,s3,.pointer (some ⟨w.heap.size,0,none⟩),s5,.pointer (some ⟨w.heap.size+1,0,none⟩),s7,s8,s9,Aa,Al,.pointer (some ⟨g,0,none⟩),.slice oa.h.ao oa.l.length oa.h.cap,.slice (some ⟨g+1,0,none⟩) 1 1,Ce,Cp,Da,Dl,Dt,Du,Dv,Dw,Dx,Dy,Dz,Ec,Ed,Ee,Ef,Eg,Eh,Ei,Ej,Ek,El,Em,En,Eo,Ep,Er,Es,Et,Eu,Ev,Ew,Ey,Ez,Fa,Fb,Fc,Fd,Fe,Ff,Fg,Fh,Fi,Fj,Fk,Fl,Fm,Fo,Fp,Fq,Fr,Fs,Ft,Fu,Fv,Fw,Fx,Fy,Fz,Ga,Gb,Gc,Gd,Ge,Gf,Gg,Gh,Gi,Gj,Gk,Gl,Gm,Gn,Gp,Gq,Gr,Gs,Gt,Gu,Gv,Gw,Gx,Gy,Gz,Ha,Hb,Ab,Ac,Ad,Ae,Af,Ag,Ah,Ai,Aj,Ak,Am,Ao,Ap,Aq,Ar,At,Au,Av,Aw,Ax,Ay,Az,Bc,Bd,Be,Bf,Bg,Bh,Bi,Bj,Bk,Bl,Bm,Bn,Bo,Bp,Bq,Br,Bs,Bt,Bu,Bv,Bw,Bx,By,Bz,Ca,Cb,Cc,Cd,Cf,Cg,Ch,Ci,Cj,Ck,Cl,Cm,Cn,Co,Cq,Cr,Cs,Ct,Cu,Cv,Cw,Cx,Cy,Cz,Db,Dc,Dd,De,Df,Dg,Dh,Di,Dj,Dk,Dm,Dn,Dp,Dq,Dr,Ds],defers:= [] } x2:=by
 have _:True:=by have _:=HE2;have _:=HE3;have _:=hn;have _:=HQY;have _:=ha;have _:=hd;have _:=hpa;trivial
 have hob:=HP2.o.ob;have hol:=HP2.o.qo.ole;have hg2:=HP2.o.hg;have hl2:=HP2.o.lt;have hwd:IntKind.i64.wrap (d - 1) =d - 1:=by rw [IntKind.wrap_i64];omega
 subst hc;conv=>enter [2];whnf
 have y4:=HP2.o.b4.cell (j:=0) rfl
 go_upto_region 33 with(go_at_call 13;refine(HQY.o _ b (p+1) L s E HP2.o.sk (by have:=HP2.o.hE;omega) HP2.o.tp (by omega)).mono ?_;rintro e0 x3 ⟨⟨qb,ob,rfl,hqo⟩,⟨p2,hp3,hp4,ht3⟩,hg3⟩;have HQB:=ai hqo;have hs3:=hg3.size;have HP3:=ai (HP2.o.tape hg3 ht3);clear hqo ht3 hg3)
 try refine hN _ _ ?_
 conv=>enter [2];whnf
 clear y4;have HBB:=ai (Box.new x3 qb.lit 57);have HP4:=ai (HP3.o.below (belA (.cells qb.lit 57)));have HQB4:=ai (HQB.o.below (belA (.cells qb.lit 57)));have hs4:x3.heap.size+1= (x3.alloc (.cells qb.lit 57)).heap.size:=by simp
 generalize x3.alloc (.cells qb.lit 57) =V4 at *;clear HP3 HQB;have hbl2:=HQB4.o.ole;have HO1:=ai HP4.o.ot.now;go_upto_region 36 with(first
  | (at_builtin;refine app_il rfl _ _ rfl V4.heap.size (.slice none 0 0) 0 [] rfl (World.ownsRow_nil _ _ _ _) oa HO1.o rfl (by omega) (Nat.le_refl _) ?_;intro v1 y1 ho1 hg1;obtain⟨o1,hv1,hl1,hi1,hw1⟩:=il_own (xs:=oa.l) (by simpa using ho1) (fun t ht=>isT_64 (HP4.o.qo.oty t ht));subst hv1;have HOW1:=ai hw1;have HL1:=ai hl1;have hle1:o1.l.length≤8:=(by rw [hl1];exact hol);have hs5:=hg1.size;have HBE1:=ai (grown0 (Below.refl V4.heap.size V4) (Nat.le_refl _) hg1 (fun k e=>by simp [Value.ownBlock]at e));have HO2:=ai (HQB4.o.od.now.mono HBE1.o);clear ho1 hg1 hi1 hw1 hl1)
  | (at_builtin;refine app_il rfl _ _ rfl V4.heap.size _ o1.l.length _ rfl HOW1.o ob HO2.o rfl (by omega) hs5 ?_;intro v2 y2 ho2 hg2;obtain⟨o2,hv2,hl2,hi2,hw2⟩:=il_own (xs:=o1.l ++ ob.l) (by simpa using ho2) (fun t ht=>by rcases List.mem_append.1 ht with ht|ht<;>first|exact isT_64 (HP4.o.qo.oty t (HL1.o▸ht)) |exact isT_64 (HQB4.o.oty t ht));subst hv2;have HOW2:=ai hw2;have HOI2:=ai hi2;have HL2:=ai (show o2.l=oa.l ++ ob.l from by rw [hl2,HL1.o]);have hle2:o2.l.length≤16:=(by rw [hl2,List.length_append];omega);have HBE2:=ai (grown0 HBE1.o HBE1.o.size hg2 (fun k e=>(HOW1.o.lt k e).1));clear ho2 hg2 hi2 hw2 hl2))
 have HP5:=ai (HP4.o.below HBE2.o);have HQB5:=ai (HQB4.o.below HBE2.o);have HBB5:=ai (HBB.o.below HBE2.o);have hs6:=HBE2.o.size;clear HP4 HQB4 HBB HO1 HO2 HOW1 HL1 HBE1 HBE2 hs5;by_cases h8: (8:Int) <o2.l.length
 ·obtain⟨a0,a1,a2,a3,a4,a5,a6,a7,a8,a9,a10,a11,a12,a13,a14⟩:=HP5.o.b12.c15
  obtain⟨e0,e1,e2,e3,e4,e5,e6,e7,e8,e9,e10,e11,e12,e13,e14⟩:=HP5.o.br.c15;obtain⟨f0,f1,f2,f3,f4,f5,f6,f7,f8,f9,f10,f11,f12,f13,f14⟩:=HP5.o.br.f15
  go_wp2_with fail
  have HD:=ai (HP5.o.fin (a:=a) (n:=2*n+250) (N:=2*N+60) HP5.o.gb HP5.o.tp (HP5.o.qo.wide (Nat.le_refl _) (by have:=HP5.o.lt;omega) (Nat.le_refl _) (Nat.le_refl _)) (by omega) ⟨by omega,by omega⟩)
  have HRR:=ai (box15 HP5.o.br (.int .i64 qa.op) (.string qa.table) (.int .i64 qa.kind) (.bool qa.all) (.int .i64 qa.cond.op) (.int .i64 qa.cond.typ) (.int .i64 qa.cond.num) (.string qa.cond.text) (.int .i64 qa.cond.col) (.slice qa.cond.kh.ao qa.cond.kids.length qa.cond.kh.cap) (.slice qa.eh.ao qa.exprs.length qa.eh.cap) (.slice qa.ah.ao qa.aggs.length qa.ah.cap) (.slice qa.types.h.ao qa.types.l.length qa.types.h.cap) (.slice qa.rh.ao qa.rows.length qa.rh.cap) (.slice qa.qh.ao qa.kids.length qa.qh.cap));obtain⟨r0,r1,r2,r3,r4,r5,r6,r7,r8,r9,r10,r11,r12,r13,r14⟩:=HRR.o.c15
  try refine hQ _ _ ?_
  exact bodyPost_ret (v:=.tuple #[.agg #[.int .i64 qa.op,.string qa.table,.int .i64 qa.kind,.bool qa.all,.int .i64 qa.cond.op,.int .i64 qa.cond.typ,.int .i64 qa.cond.num,.string qa.cond.text,.int .i64 qa.cond.col,.slice qa.cond.kh.ao qa.cond.kids.length qa.cond.kh.cap,.slice qa.eh.ao qa.exprs.length qa.eh.cap,.slice qa.ah.ao qa.aggs.length qa.ah.cap,.slice qa.types.h.ao qa.types.l.length qa.types.h.cap,.slice qa.rh.ao qa.rows.length qa.rh.cap,.slice qa.qh.ao qa.kids.length qa.qh.cap],.slice oa.h.ao oa.l.length oa.h.cap]) (by simp [results,Tryd.results13,go_sem,r0,r1,r2,r3,r4,r5,r6,r7,r8,r9,r10,r11,r12,r13,r14]) rfl HD.o
 have hb3:0<o2.l.length→o2.h.b≠b:=fun hp=>by have:=HOW2.o.ge hp;have:=HP5.o.ll;omega
 have HTSJ:=ai (show∀x,Kept b b y2 x→o2.In x from fun x hx=>il_kept2 HOI2.o hx hb3 hb3)
 go_upto_region 38 with fail
 have hbg:g≠b∧x3.heap.size≠b:=by have:=HP5.o.ll;omega
 have HBL0:=ai (BL.start (by have:=HP5.o.ll;have:=HP5.o.lt;have:=HP5.o.hg;exact⟨by omega,fun hp=>by have:=this;have:=HP5.o.ll.2 hp;omega⟩) HP5.o.tp)
 with_reducible refine qregion38 HE3 (ai HP5.o.b12) HBB5 hbg.1 hbg.2 HBL0 HTSJ hle2 hb3 (by omega) ?hc ?hN
 case hc=>rfl
 case hN=>
  intro Hn Hc He Hf Hg Hh Hi Hj Hk Hl Hm wc hcut;clear HBL0 hbg;obtain⟨g23,gl,k,e,p4,rfl,hk,hp5,hes,hgb,hglb,hBX,hBL,hgr,htp,yy,EE,hyy,hEE,hDe⟩:=hcut.o;have HP6:=ai (HP5.o.tape hgr htp);have HQB6:=ai (HQB5.o.tape hgr (by have:=HP5.o.ll;omega))
  have HDE:=ai (hDe.wider (D':=Seg yy wc.heap.size) (fun j hj=>⟨hj.1,by have:=hj.2;omega⟩) (fun j hj=>hj.2))
  have HOI6:=ai (HTSJ.o wc ((Kept.refl _ _ _).grown hgr));have HBX:=ai hBX;have HBL:=ai hBL;have hk64:int64 k:=by constructor<;>omega
  have HK64:=ai hk64;have HES:=ai hes;have hs9:=hgr.size;clear hcut hBX hBL hgr htp hDe hes hk64 HP5 HQB5 HBB5 HTSJ HOI2;obtain⟨n0,n1,n2,n3,n4,n5,n6,n7,n8,n9,n10,n11,n12,n13,n14⟩:=HBX.o.c15;obtain⟨e0,e1,e2,e3,e4,e5,e6,e7,e8,e9,e10,e11,e12,e13,e14⟩:=HP6.o.br.c15;obtain⟨f0,f1,f2,f3,f4,f5,f6,f7,f8,f9,f10,f11,f12,f13,f14⟩:=HP6.o.br.f15
  by_cases k5:k=5
  ·have HQF:=ai (join_qo HP6.o HQB6.o (by omega) HDE.o (by omega) HES.o HK64.o HBL.o (by omega) HP6.o.ot HP6.o.qo.ofr HP6.o.qo.ole HP6.o.qo.oty (by rw [if_pos (.inl k5)]))
   have hb5: (k == 5) =true:=by rw [k5];rfl
   clear k5;go_wp2_with fail
   have HD:=ai (HP6.o.fin (a:=a) (n:=2*n+250) (N:=2*N+60) HP6.o.gb HP6.o.tp HQF.o (by omega) ⟨by omega,by omega⟩)
   have HRR:=ai (box15 HP6.o.br (.int .i64 5) (.string ⟨#[]⟩) (.int .i64 k) (.bool false) (.int .i64 e.op) (.int .i64 e.typ) (.int .i64 e.num) (.string e.text) (.int .i64 e.col) (.slice e.kh.ao e.kids.length e.kh.cap) (.slice none 0 0) (.slice none 0 0) (.slice none 0 0) (.slice none 0 0) (.slice (some ⟨gl,0,none⟩) 2 2));obtain⟨r0,r1,r2,r3,r4,r5,r6,r7,r8,r9,r10,r11,r12,r13,r14⟩:=HRR.o.c15
   try refine hQ _ _ ?_
   exact bodyPost_ret (v:=.tuple #[.agg #[.int .i64 5,.string ⟨#[]⟩,.int .i64 k,.bool false,.int .i64 e.op,.int .i64 e.typ,.int .i64 e.num,.string e.text,.int .i64 e.col,.slice e.kh.ao e.kids.length e.kh.cap,.slice none 0 0,.slice none 0 0,.slice none 0 0,.slice none 0 0,.slice (some ⟨gl,0,none⟩) 2 2],.slice oa.h.ao oa.l.length oa.h.cap]) (by simp [results,Tryd.results13,go_sem,r0,r1,r2,r3,r4,r5,r6,r7,r8,r9,r10,r11,r12,r13,r14]) rfl HD.o
  have hb5: (k == 5) =false:=beq_eq_false_iff_ne.2 k5;by_cases k6:k=6
  ·have HQF:=ai (join_qo HP6.o HQB6.o (by omega) HDE.o (by omega) HES.o HK64.o HBL.o (by omega) HP6.o.ot HP6.o.qo.ofr HP6.o.qo.ole HP6.o.qo.oty (by rw [if_pos (.inr k6)]))
   have hb6: (k == 6) =true:=by rw [k6];rfl
   clear k5 k6;go_wp2_with fail
   have HD:=ai (HP6.o.fin (a:=a) (n:=2*n+250) (N:=2*N+60) HP6.o.gb HP6.o.tp HQF.o (by omega) ⟨by omega,by omega⟩)
   have HRR:=ai (box15 HP6.o.br (.int .i64 5) (.string ⟨#[]⟩) (.int .i64 k) (.bool false) (.int .i64 e.op) (.int .i64 e.typ) (.int .i64 e.num) (.string e.text) (.int .i64 e.col) (.slice e.kh.ao e.kids.length e.kh.cap) (.slice none 0 0) (.slice none 0 0) (.slice none 0 0) (.slice none 0 0) (.slice (some ⟨gl,0,none⟩) 2 2));obtain⟨r0,r1,r2,r3,r4,r5,r6,r7,r8,r9,r10,r11,r12,r13,r14⟩:=HRR.o.c15
   try refine hQ _ _ ?_
   exact bodyPost_ret (v:=.tuple #[.agg #[.int .i64 5,.string ⟨#[]⟩,.int .i64 k,.bool false,.int .i64 e.op,.int .i64 e.typ,.int .i64 e.num,.string e.text,.int .i64 e.col,.slice e.kh.ao e.kids.length e.kh.cap,.slice none 0 0,.slice none 0 0,.slice none 0 0,.slice none 0 0,.slice (some ⟨gl,0,none⟩) 2 2],.slice oa.h.ao oa.l.length oa.h.cap]) (by simp [results,Tryd.results13,go_sem,r0,r1,r2,r3,r4,r5,r6,r7,r8,r9,r10,r11,r12,r13,r14]) rfl HD.o
  have hb6: (k == 6) =false:=beq_eq_false_iff_ne.2 k6;have HQF:=ai (join_qo HP6.o HQB6.o (by omega) HDE.o (by omega) HES.o HK64.o HBL.o (by omega) (il_dep HOI6.o (fun hp=>by have:=HOW2.o.ge hp;omega)) (fun hp=>by have:=HOW2.o.ge hp;omega) (by omega) (fun t ht=>by
   rw [HL2.o]at ht;rcases List.mem_append.1 ht with ht|ht
   ·exact HP6.o.qo.oty t ht
   ·exact HQB6.o.oty t ht) (by rw [if_neg (by omega)];exact HL2.o))
  clear k5 k6;go_wp2_with fail
  have HD:=ai (HP6.o.fin (a:=a) (n:=2*n+250) (N:=2*N+60) HP6.o.gb HP6.o.tp HQF.o (by omega) ⟨by omega,by omega⟩)
  have HRR:=ai (box15 HP6.o.br (.int .i64 5) (.string ⟨#[]⟩) (.int .i64 k) (.bool false) (.int .i64 e.op) (.int .i64 e.typ) (.int .i64 e.num) (.string e.text) (.int .i64 e.col) (.slice e.kh.ao e.kids.length e.kh.cap) (.slice none 0 0) (.slice none 0 0) (.slice none 0 0) (.slice none 0 0) (.slice (some ⟨gl,0,none⟩) 2 2));obtain⟨r0,r1,r2,r3,r4,r5,r6,r7,r8,r9,r10,r11,r12,r13,r14⟩:=HRR.o.c15
  try refine hQ _ _ ?_
  exact bodyPost_ret (v:=.tuple #[.agg #[.int .i64 5,.string ⟨#[]⟩,.int .i64 k,.bool false,.int .i64 e.op,.int .i64 e.typ,.int .i64 e.num,.string e.text,.int .i64 e.col,.slice e.kh.ao e.kids.length e.kh.cap,.slice none 0 0,.slice none 0 0,.slice none 0 0,.slice none 0 0,.slice (some ⟨gl,0,none⟩) 2 2],.slice o2.h.ao o2.l.length o2.h.cap]) (by simp [results,Tryd.results13,go_sem,r0,r1,r2,r3,r4,r5,r6,r7,r8,r9,r10,r11,r12,r13,r14]) rfl HD.o
end Go.Proofs.YtogalchclmmfgaaDoor

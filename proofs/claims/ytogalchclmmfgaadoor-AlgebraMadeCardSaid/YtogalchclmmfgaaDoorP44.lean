/- A part of the proof of AlgebraMade. -/
import Derived.Test.YtogalchclmmfgaaDoorP06
import Derived.Test.YtogalchclmmfgaaDoorRows
import Derived.Test.YtogalchclmmfgaaDoorP04
import Derived.Test.YtogalchclmmfgaaDoorP41
import Derived.OpenShut
import Derived.Lib.LaidU8
import Derived.Deep.RegionHeld3
import Derived.Deep.RegionLaw
import Derived.Deep.DeepCutAuto
set_option maxRecDepth 100000
set_option maxHeartbeats 16000000
namespace Go.Proofs.YtogalchclmmfgaaDoor
open Go.RowKit
theorem gOpers:Tryd.prog.globalNamed "querylab/expression.operations" = some 2:=by kernel_rfl
theorem gOpersType: (Tryd.prog.globals[2]?).map (·.type) =some 155:=by kernel_rfl
theorem cellsOper:Tryd.prog.cellsOf 135=4:=by kernel_rfl
section
variable {H:Type} {enc:TypeId×Value→H} {w:World} {base:Nat} {sp:Nat→Bool} {held:Bool} {fuel:Nat}
theorem oper_cells {c:List Value} {x:List UInt8} {n1 n2 n3:Int} {d:DataW H×List MemPlace} (hd:d.1 = .agg [.lit (.string x),.lit (.int .i64 n1),.lit (.int .i64 n2),.lit (.int .i64 n3)])
  (h:DataW.trod enc Tryd.prog w base sp held fuel 135 c=some d) :c[0]? = some (.string ⟨x.toArray⟩)∧c[1]? = some (.int .i64 n1)∧c[2]? = some (.int .i64 n2)∧c[3]? = some (.int .i64 n3):=by
 obtain⟨xs,m,rfl,rfl,hl,hxl,hall⟩:=DataW.trod_struct Tryd.underlying135 h;have hd':xs.map (·.1) = [.lit (.string x),.lit (.int .i64 n1),.lit (.int .i64 n2),.lit (.int .i64 n3)]:=by simpa using hd
 have h0:=hall 0 _ rfl;have h1:=hall 1 _ rfl;have h2:=hall 2 _ rfl;have h3:=hall 3 _ rfl;obtain⟨a0,a1,a2,a3,rfl⟩ : ∃a0 a1 a2 a3,xs = [a0,a1,a2,a3]:=by
  match xs,hxl with
  | [a0,a1,a2,a3],_=>exact⟨a0,a1,a2,a3,rfl⟩
 simp only [List.map_cons,List.map_nil,List.cons.injEq,and_true]at hd';obtain⟨e0,e1,e2,e3⟩:=hd';simp only [List.getElem?_cons_zero,List.getElem?_cons_succ]at h0 h1 h2 h3;obtain⟨s0,hc0,he0,-⟩:=DataW.trod_string Tryd.underlying9 h0;obtain⟨m1,hc1,he1,-⟩:=DataW.trod_int Tryd.underlying3 h1;obtain⟨m2,hc2,he2,-⟩:=DataW.trod_int Tryd.underlying3 h2;obtain⟨m3,hc3,he3,-⟩:=DataW.trod_int Tryd.underlying3 h3;subst he0;subst he1;subst he2;subst he3;simp only [DataW.lit.injEq,Lit.string.injEq,Lit.int.injEq,true_and]at e0 e1 e2 e3;subst e1;subst e2;subst e3;have g0:=congrArg (·[0]?) hc0
 have g1:=congrArg (·[0]?) hc1
 have g2:=congrArg (·[0]?) hc2
 have g3:=congrArg (·[0]?) hc3
 simp only [List.getElem?_take,List.getElem?_drop,List.getElem?_cons_zero]at g0 g1 g2 g3;refine⟨?_,?_,?_,?_⟩
 ·rw [←e0]
  have:=(show _∧c[0]? = some (Value.string s0) by simpa using g0).2
  simp only [Array.toArray_toList];exact this
 ·exact(show _∧c[1]? = some (Value.int .i64 m1) by simpa using g1).2
 ·exact(show _∧c[2]? = some (Value.int .i64 m2) by simpa using g2).2
 ·exact(show _∧c[3]? = some (Value.int .i64 m3) by simpa using g3).2
end
theorem ops_of_reads {W:World} (h:Lib.VarReads Tryd.prog W "querylab/expression.operations" Rows.laid_querylab_expression_operations) :OpsAt W:=by
 obtain⟨g,t,cs,fuel,p,hg,ht,hv,hr⟩:=h;obtain rfl:=Option.some.inj (gOpers.symm.trans hg);obtain rfl:=Option.some.inj (gOpersType.symm.trans ht);obtain⟨xs,m,rfl,hx,hl,hxl,hall⟩:=DataW.trod_array Tryd.underlying155 hr;have hx':Rows.laid_querylab_expression_operations (H:=Unit) = .agg (xs.map (·.1)):=congrArg Prod.fst hx
 unfold Rows.laid_querylab_expression_operations at hx'
 injection hx' with hx';have key: ∀(i:Nat) (hi:i<29) (x:List UInt8) (n1 n2 n3:Int),(xs.map (·.1))[i]? = some (.agg [.lit (.string x),.lit (.int .i64 n1),.lit (.int .i64 n2),.lit (.int .i64 n3)])→
   W.cell? ⟨2,i*4,none⟩ =some (.string ⟨x.toArray⟩)∧W.cell? ⟨2,i*4+1,none⟩ =some (.int .i64 n1)∧W.cell? ⟨2,i*4+2,none⟩ =some (.int .i64 n2)∧W.cell? ⟨2,i*4+3,none⟩ =some (.int .i64 n3):=by
  intro i hi x n1 n2 n3 hd;have h1:=hall i hi;rw [List.getElem?_map]at hd;obtain⟨d,hd1,hd2⟩:=Option.map_eq_some_iff.1 hd;rw [hd1,cellsOper]at h1;obtain⟨c0,c1,c2,c3⟩:=oper_cells hd2 h1;rw [World.var?_cell gOpers hv,World.var?_cell gOpers hv,World.var?_cell gOpers hv,World.var?_cell gOpers hv];simp only [List.getElem?_take,List.getElem?_drop]at c0 c1 c2 c3;refine⟨?_,?_,?_,?_⟩
  ·simpa using c0
  ·simpa using c1
  ·simpa using c2
  ·simpa using c3
 rw [←hx']at key;intro i hi;have hc:i=0∨i=1∨i=2∨i=3∨i=4∨i=5∨i=6∨i=7∨i=8∨i=9∨i=10∨i=11∨i=12∨i=13∨i=14∨i=15∨i=16∨i=17∨i=18∨i=19∨i=20∨i=21∨i=22∨i=23∨i=24∨i=25∨i=26∨i=27∨i=28:=by have:=ops_len;omega
 rcases hc with rfl|rfl|rfl|rfl|rfl|rfl|rfl|rfl|rfl|rfl|rfl|rfl|rfl|rfl|rfl|rfl|rfl|rfl|rfl|rfl|rfl|rfl|rfl|rfl|rfl|rfl|rfl|rfl|rfl
 all_goals exact key _ (by decide) _ _ _ _ rfl
end Go.Proofs.YtogalchclmmfgaaDoor
namespace Go.Proofs.YtogalchclmmfgaaDoor
open Go.RowKit
theorem gForms:Tryd.prog.globalNamed "querylab/algebra.forms" = some 0:=by kernel_rfl
theorem gFormsType: (Tryd.prog.globals[0]?).map (·.type) =some 125:=by kernel_rfl
theorem cellsForm:Tryd.prog.cellsOf 103=3:=by kernel_rfl
section
variable {H:Type} {enc:TypeId×Value→H} {w:World} {base:Nat} {sp:Nat→Bool} {held:Bool} {fuel:Nat}
theorem form_cells {c:List Value} {x y:List UInt8} {n:Int} {d:DataW H×List MemPlace} (hd:d.1 = .agg [.lit (.string x),.lit (.int .i64 n),.lit (.string y)])
  (h:DataW.trod enc Tryd.prog w base sp held fuel 103 c=some d) :c[0]? = some (.string ⟨x.toArray⟩)∧c[1]? = some (.int .i64 n)∧c[2]? = some (.string ⟨y.toArray⟩):=by
 obtain⟨xs,m,rfl,rfl,hl,hxl,hall⟩:=DataW.trod_struct Tryd.underlying103 h;have hd':xs.map (·.1) = [.lit (.string x),.lit (.int .i64 n),.lit (.string y)]:=by simpa using hd
 have h0:=hall 0 _ rfl;have h1:=hall 1 _ rfl;have h2:=hall 2 _ rfl;obtain⟨a0,a1,a2,rfl⟩ : ∃a0 a1 a2,xs = [a0,a1,a2]:=by
  match xs,hxl with
  | [a0,a1,a2],_=>exact⟨a0,a1,a2,rfl⟩
 simp only [List.map_cons,List.map_nil,List.cons.injEq,and_true]at hd';obtain⟨e0,e1,e2⟩:=hd';simp only [List.getElem?_cons_zero,List.getElem?_cons_succ]at h0 h1 h2;obtain⟨s0,hc0,he0,-⟩:=DataW.trod_string Tryd.underlying9 h0;obtain⟨n1,hc1,he1,-⟩:=DataW.trod_int Tryd.underlying3 h1;obtain⟨s2,hc2,he2,-⟩:=DataW.trod_string Tryd.underlying9 h2;subst he0;subst he1;subst he2;simp only [DataW.lit.injEq,Lit.string.injEq,Lit.int.injEq,true_and]at e0 e1 e2;subst e1;have g0:=congrArg (·[0]?) hc0
 have g1:=congrArg (·[0]?) hc1
 have g2:=congrArg (·[0]?) hc2
 simp only [List.getElem?_take,List.getElem?_drop,List.getElem?_cons_zero]at g0 g1 g2;refine⟨?_,?_,?_⟩
 ·rw [←e0]
  have:=(show _∧c[0]? = some (Value.string s0) by simpa using g0).2
  simp only [Array.toArray_toList];exact this
 ·exact(show _∧c[1]? = some (Value.int .i64 n1) by simpa using g1).2
 ·rw [←e2]
  have:=(show _∧c[2]? = some (Value.string s2) by simpa using g2).2
  simp only [Array.toArray_toList];exact this
end
theorem forms_of_reads {W:World} (h:Lib.VarReads Tryd.prog W "querylab/algebra.forms" Rows.laid_querylab_algebra_forms) :FormsAt W:=by
 obtain⟨g,t,cs,fuel,p,hg,ht,hv,hr⟩:=h;obtain rfl:=Option.some.inj (gForms.symm.trans hg);obtain rfl:=Option.some.inj (gFormsType.symm.trans ht);obtain⟨xs,m,rfl,hx,hl,hxl,hall⟩:=DataW.trod_array Tryd.underlying125 hr;have hx':Rows.laid_querylab_algebra_forms (H:=Unit) = .agg (xs.map (·.1)):=congrArg Prod.fst hx
 unfold Rows.laid_querylab_algebra_forms at hx'
 injection hx' with hx';have key: ∀(i:Nat) (hi:i<11) (x y:List UInt8) (n:Int),(xs.map (·.1))[i]? = some (.agg [.lit (.string x),.lit (.int .i64 n),.lit (.string y)])→
   W.cell? ⟨0,i*3,none⟩ =some (.string ⟨x.toArray⟩)∧W.cell? ⟨0,i*3+1,none⟩ =some (.int .i64 n)∧W.cell? ⟨0,i*3+2,none⟩ =some (.string ⟨y.toArray⟩):=by
  intro i hi x y n hd;have h1:=hall i hi;rw [List.getElem?_map]at hd;obtain⟨d,hd1,hd2⟩:=Option.map_eq_some_iff.1 hd;rw [hd1,cellsForm]at h1;obtain⟨c0,c1,c2⟩:=form_cells hd2 h1;rw [World.var?_cell gForms hv,World.var?_cell gForms hv,World.var?_cell gForms hv];simp only [List.getElem?_take,List.getElem?_drop]at c0 c1 c2;refine⟨?_,?_,?_⟩
  ·simpa using c0
  ·simpa using c1
  ·simpa using c2
 rw [←hx']at key;intro i hi;have hc:i=0∨i=1∨i=2∨i=3∨i=4∨i=5∨i=6∨i=7∨i=8∨i=9∨i=10:=by have:=forms_len;omega
 rcases hc with rfl|rfl|rfl|rfl|rfl|rfl|rfl|rfl|rfl|rfl|rfl
 all_goals exact key _ (by decide) _ _ _ rfl
end Go.Proofs.YtogalchclmmfgaaDoor
namespace Go.Proofs.YtogalchclmmfgaaDoor
open Go.RowKit
theorem qcase_sel (HE2:Hid (ExprAt 20 5 2)) (HE3:Hid (ExprAt 110 21 3)) {n N:Nat} {d:Int} (hd:2≤d∧d≤4) (hn:n≤100000) (HQY:Hid (QryAt n N (d - 1))) (w x2:World) (b a p g:Nat) (L:IL) (s:Sch) (E:Nat) (qa:Qu) (oa:IL) (ha:a+ (2*n+250)≤4611686018427370000) (hpa:a≤p∧p≤a+1+n) (HP2:Hid (QP w x2 b (p+1) L s E qa oa g N)) {Q:Exit→Act→World→Prop} {c:Code} {s1 s3 s5 s7 s8 s9 Aa Al Ce Cp Da Dl Dt Du Dv Dw Dx Dy Dz Ec Ed Ee Ef Eg Eh Ei Ej Ek El Em En Eo Ep Er Es Et Eu Ev Ew Ey Ez Fa Fb Fc Fd Fe Ff Fg Fh Fi Fj Fk Fl Fm Fo Fp Fq Fr Fs Ft Fu Fv Fw Fx Fy Fz Ga Gb Gc Gd Ge Gf Gg Gh Gi Gj Gk Gl Gm Gn Gp Gq Gr Gs Gt Gu Gv Gw Gx Gy Gz Ha Hb Ab Ac Ad Ae Af Ag Ah Ai Aj Ak Am Ao Ap Aq Ar At Au Av Aw Ax Ay Az Bc Bd Be Bf Bg Bh Bi Bj Bk Bl Bm Bn Bo Bp Bq Br Bs Bt Bu Bv Bw Bx By Bz Ca Cb Cc Cd Cf Cg Ch Ci Cj Ck Cl Cm Cn Co Cq Cr Cs Ct Cu Cv Cw Cx Cy Cz Db Dc Dd De Df Dg Dh Di Dj Dk Dm Dn Dp Dq Dr Ds:Value} (hc:c=codeAt [1,1,1,1,0,1,4,1,2] qbody) (hQ: ∀a' x,(bodyPost Tryd.prog Tryd.f13 (fun e w'=>QOut s w w' b a (2*n+250) (2*N+60) L e)) Exit.ret a' x→Q Exit.ret a' x) :
  Code.wp Tryd.prog c Q { tmps:=#[.pointer (some ⟨b,0,none⟩),s1,.int .i64 d,s3,.pointer (some ⟨w.heap.size,0,none⟩),s5,.pointer (some ⟨w.heap.size+1,0,none⟩),s7,s8,s9,Aa,Al,.pointer (some ⟨g,0,none⟩),.slice oa.h.ao oa.l.length oa.h.cap,.slice (some ⟨g+1,0,none⟩) 1 1,Ce,Cp,Da,Dl,Dt,Du,Dv,Dw,Dx,Dy,Dz,Ec,Ed,Ee,Ef,Eg,Eh,Ei,Ej,Ek,El,Em,En,Eo,Ep,Er,Es,Et,Eu,Ev,Ew,Ey,Ez,Fa,Fb,Fc,Fd,Fe,Ff,Fg,Fh,Fi,Fj,Fk,Fl,Fm,Fo,Fp,Fq,Fr,Fs,Ft,Fu,Fv,Fw,Fx,Fy,Fz,Ga,Gb,Gc,Gd,Ge,Gf,Gg,Gh,Gi,Gj,Gk,Gl,Gm,Gn,Gp,Gq,Gr,Gs,Gt,Gu,Gv,Gw,Gx,Gy,Gz,Ha,Hb,Ab,Ac,Ad,Ae,Af,Ag,Ah,Ai,Aj,Ak,Am,Ao,Ap,Aq,Ar,At,Au,Av,Aw,Ax,Ay,Az,Bc,Bd,Be,Bf,Bg,Bh,Bi,Bj,Bk,Bl,Bm,Bn,Bo,Bp,Bq,Br,Bs,Bt,Bu,Bv,Bw,Bx,By,Bz,Ca,Cb,Cc,Cd,Cf,Cg,Ch,Ci,Cj,Ck,Cl,Cm,Cn,Co,Cq,Cr,Cs,Ct,Cu,Cv,Cw,Cx,Cy,Cz,Db,Dc,Dd,De,Df,Dg,Dh,Di,Dj,Dk,Dm,Dn,Dp,Dq,Dr,Ds],defers:= [] } x2:=by
 have _:True:=by have _:=HE2;have _:=HE3;have _:=hn;have _:=HQY;have _:=ha;have _:=hd;have _:=hpa;trivial
 have hob:=HP2.o.ob;have hol:=HP2.o.qo.ole;have hg2:=HP2.o.hg;have hl2:=HP2.o.lt;have hwd:IntKind.i64.wrap (d - 1) =d - 1:=by rw [IntKind.wrap_i64];omega
 subst hc;conv=>enter [2];whnf
 go_wp2_with (go_at_call 19;refine(HE3.o _ b (p+1) L oa 2 rfl HP2.o.tp (by omega) HP2.o.ot.now (by omega) hob).mono ?_;rintro e0 x3 ⟨⟨e,rfl,hi,hf,hes,-⟩,⟨p2,hp3,hp4,ht3⟩,hg3⟩;have HI:=ai hi;have HF:=ai hf;have HES:=ai hes;have HP3:=ai (HP2.o.tape hg3 ht3);clear hi hf hes ht3 hg3;obtain⟨e0,e1,e2,e3,e4,e5,e6,e7,e8,e9,e10,e11,e12,e13,e14⟩:=HP3.o.br.c15;obtain⟨f0,f1,f2,f3,f4,f5,f6,f7,f8,f9,f10,f11,f12,f13,f14⟩:=HP3.o.br.f15)
 have HD:=ai (HP3.o.fin (a:=a) (n:=2*n+250) (N:=2*N+60) HP3.o.gb HP3.o.tp (HP3.o.sel (ex_dep HI.o HF.o) (by omega) HES.o) (by omega) ⟨by omega,by omega⟩)
 have HRR:=ai (box15 HP3.o.br (.int .i64 3) (.string ⟨#[]⟩) (.int .i64 0) (.bool false) (.int .i64 e.op) (.int .i64 e.typ) (.int .i64 e.num) (.string e.text) (.int .i64 e.col) (.slice e.kh.ao e.kids.length e.kh.cap) (.slice none 0 0) (.slice none 0 0) (.slice none 0 0) (.slice none 0 0) (.slice (some ⟨g+1,0,none⟩) 1 1));obtain⟨r0,r1,r2,r3,r4,r5,r6,r7,r8,r9,r10,r11,r12,r13,r14⟩:=HRR.o.c15
 try refine hQ _ _ ?_
 exact bodyPost_ret (v:=.tuple #[.agg #[.int .i64 3,.string ⟨#[]⟩,.int .i64 0,.bool false,.int .i64 e.op,.int .i64 e.typ,.int .i64 e.num,.string e.text,.int .i64 e.col,.slice e.kh.ao e.kids.length e.kh.cap,.slice none 0 0,.slice none 0 0,.slice none 0 0,.slice none 0 0,.slice (some ⟨g+1,0,none⟩) 1 1],.slice oa.h.ao oa.l.length oa.h.cap]) (by simp [results,Tryd.results13,go_sem,r0,r1,r2,r3,r4,r5,r6,r7,r8,r9,r10,r11,r12,r13,r14]) rfl HD.o
end Go.Proofs.YtogalchclmmfgaaDoor
namespace Go.Proofs.YtogalchclmmfgaaDoor
open Go.RowKit
theorem qcase_dist (HE2:Hid (ExprAt 20 5 2)) (HE3:Hid (ExprAt 110 21 3)) {n N:Nat} {d:Int} (hd:2≤d∧d≤4) (hn:n≤100000) (HQY:Hid (QryAt n N (d - 1))) (w x2:World) (b a p g:Nat) (L:IL) (s:Sch) (E:Nat) (qa:Qu) (oa:IL) (ha:a+ (2*n+250)≤4611686018427370000) (hpa:a≤p∧p≤a+1+n) (HP2:Hid (QP w x2 b (p+1) L s E qa oa g N)) {Q:Exit→Act→World→Prop} {c:Code} {s1 s3 s5 s7 s8 s9 Aa Al Ce Cp Da Dl Dt Du Dv Dw Dx Dy Dz Ec Ed Ee Ef Eg Eh Ei Ej Ek El Em En Eo Ep Er Es Et Eu Ev Ew Ey Ez Fa Fb Fc Fd Fe Ff Fg Fh Fi Fj Fk Fl Fm Fo Fp Fq Fr Fs Ft Fu Fv Fw Fx Fy Fz Ga Gb Gc Gd Ge Gf Gg Gh Gi Gj Gk Gl Gm Gn Gp Gq Gr Gs Gt Gu Gv Gw Gx Gy Gz Ha Hb Ab Ac Ad Ae Af Ag Ah Ai Aj Ak Am Ao Ap Aq Ar At Au Av Aw Ax Ay Az Bc Bd Be Bf Bg Bh Bi Bj Bk Bl Bm Bn Bo Bp Bq Br Bs Bt Bu Bv Bw Bx By Bz Ca Cb Cc Cd Cf Cg Ch Ci Cj Ck Cl Cm Cn Co Cq Cr Cs Ct Cu Cv Cw Cx Cy Cz Db Dc Dd De Df Dg Dh Di Dj Dk Dm Dn Dp Dq Dr Ds:Value} (hc:c=codeAt [1,1,1,1,0,1,4,1,3,1,3,1,2] qbody) (hQ: ∀a' x,(bodyPost Tryd.prog Tryd.f13 (fun e w'=>QOut s w w' b a (2*n+250) (2*N+60) L e)) Exit.ret a' x→Q Exit.ret a' x) :
  Code.wp Tryd.prog c Q { tmps:=#[.pointer (some ⟨b,0,none⟩),s1,.int .i64 d,s3,.pointer (some ⟨w.heap.size,0,none⟩),s5,.pointer (some ⟨w.heap.size+1,0,none⟩),s7,s8,s9,Aa,Al,.pointer (some ⟨g,0,none⟩),.slice oa.h.ao oa.l.length oa.h.cap,.slice (some ⟨g+1,0,none⟩) 1 1,Ce,Cp,Da,Dl,Dt,Du,Dv,Dw,Dx,Dy,Dz,Ec,Ed,Ee,Ef,Eg,Eh,Ei,Ej,Ek,El,Em,En,Eo,Ep,Er,Es,Et,Eu,Ev,Ew,Ey,Ez,Fa,Fb,Fc,Fd,Fe,Ff,Fg,Fh,Fi,Fj,Fk,Fl,Fm,Fo,Fp,Fq,Fr,Fs,Ft,Fu,Fv,Fw,Fx,Fy,Fz,Ga,Gb,Gc,Gd,Ge,Gf,Gg,Gh,Gi,Gj,Gk,Gl,Gm,Gn,Gp,Gq,Gr,Gs,Gt,Gu,Gv,Gw,Gx,Gy,Gz,Ha,Hb,Ab,Ac,Ad,Ae,Af,Ag,Ah,Ai,Aj,Ak,Am,Ao,Ap,Aq,Ar,At,Au,Av,Aw,Ax,Ay,Az,Bc,Bd,Be,Bf,Bg,Bh,Bi,Bj,Bk,Bl,Bm,Bn,Bo,Bp,Bq,Br,Bs,Bt,Bu,Bv,Bw,Bx,By,Bz,Ca,Cb,Cc,Cd,Cf,Cg,Ch,Ci,Cj,Ck,Cl,Cm,Cn,Co,Cq,Cr,Cs,Ct,Cu,Cv,Cw,Cx,Cy,Cz,Db,Dc,Dd,De,Df,Dg,Dh,Di,Dj,Dk,Dm,Dn,Dp,Dq,Dr,Ds],defers:= [] } x2:=by
 have _:True:=by have _:=HE2;have _:=HE3;have _:=hn;have _:=HQY;have _:=ha;have _:=hd;have _:=hpa;trivial
 have hob:=HP2.o.ob;have hol:=HP2.o.qo.ole;have hg2:=HP2.o.hg;have hl2:=HP2.o.lt;have hwd:IntKind.i64.wrap (d - 1) =d - 1:=by rw [IntKind.wrap_i64];omega
 subst hc;conv=>enter [2];whnf
 obtain⟨e0,e1,e2,e3,e4,e5,e6,e7,e8,e9,e10,e11,e12,e13,e14⟩:=HP2.o.br.c15;obtain⟨f0,f1,f2,f3,f4,f5,f6,f7,f8,f9,f10,f11,f12,f13,f14⟩:=HP2.o.br.f15
 go_wp2_with fail
 have HD:=ai (HP2.o.fin (a:=a) (n:=2*n+250) (N:=2*N+60) HP2.o.gb HP2.o.tp HP2.o.dist (by omega) ⟨by omega,by omega⟩)
 have HRR:=ai (box15 HP2.o.br (.int .i64 9) (.string ⟨#[]⟩) (.int .i64 0) (.bool false) (.int .i64 0) (.int .i64 0) (.int .i64 0) (.string ⟨#[]⟩) (.int .i64 0) (.slice none 0 0) (.slice none 0 0) (.slice none 0 0) (.slice none 0 0) (.slice none 0 0) (.slice (some ⟨g+1,0,none⟩) 1 1));obtain⟨r0,r1,r2,r3,r4,r5,r6,r7,r8,r9,r10,r11,r12,r13,r14⟩:=HRR.o.c15
 try refine hQ _ _ ?_
 exact bodyPost_ret (v:=.tuple #[.agg #[.int .i64 9,.string ⟨#[]⟩,.int .i64 0,.bool false,.int .i64 0,.int .i64 0,.int .i64 0,.string ⟨#[]⟩,.int .i64 0,.slice none 0 0,.slice none 0 0,.slice none 0 0,.slice none 0 0,.slice none 0 0,.slice (some ⟨g+1,0,none⟩) 1 1],.slice oa.h.ao oa.l.length oa.h.cap]) (by simp [results,Tryd.results13,go_sem,r0,r1,r2,r3,r4,r5,r6,r7,r8,r9,r10,r11,r12,r13,r14]) rfl HD.o
end Go.Proofs.YtogalchclmmfgaaDoor
namespace Go.Proofs.YtogalchclmmfgaaDoor
open Go.RowKit
theorem qcase_group (HE2:Hid (ExprAt 20 5 2)) (HE3:Hid (ExprAt 110 21 3)) {n N:Nat} {d:Int} (hd:2≤d∧d≤4) (hn:n≤100000) (HQY:Hid (QryAt n N (d - 1))) (w x2:World) (b a p g:Nat) (L:IL) (s:Sch) (E:Nat) (qa:Qu) (oa:IL) (ha:a+ (2*n+250)≤4611686018427370000) (hpa:a≤p∧p≤a+1+n) (HP2:Hid (QP w x2 b (p+1) L s E qa oa g N)) {Q:Exit→Act→World→Prop} {c:Code} {s1 s3 s5 s7 s8 s9 Aa Al Ce Cp Da Dl Dt Du Dv Dw Dx Dy Dz Ec Ed Ee Ef Eg Eh Ei Ej Ek El Em En Eo Ep Er Es Et Eu Ev Ew Ey Ez Fa Fb Fc Fd Fe Ff Fg Fh Fi Fj Fk Fl Fm Fo Fp Fq Fr Fs Ft Fu Fv Fw Fx Fy Fz Ga Gb Gc Gd Ge Gf Gg Gh Gi Gj Gk Gl Gm Gn Gp Gq Gr Gs Gt Gu Gv Gw Gx Gy Gz Ha Hb Ab Ac Ad Ae Af Ag Ah Ai Aj Ak Am Ao Ap Aq Ar At Au Av Aw Ax Ay Az Bc Bd Be Bf Bg Bh Bi Bj Bk Bl Bm Bn Bo Bp Bq Br Bs Bt Bu Bv Bw Bx By Bz Ca Cb Cc Cd Cf Cg Ch Ci Cj Ck Cl Cm Cn Co Cq Cr Cs Ct Cu Cv Cw Cx Cy Cz Db Dc Dd De Df Dg Dh Di Dj Dk Dm Dn Dp Dq Dr Ds:Value} (hc:c=codeAt [1,1,1,1,0,1,4,1,3,1,3,1,3,1,2] qbody) (hQ: ∀a' x,(bodyPost Tryd.prog Tryd.f13 (fun e w'=>QOut s w w' b a (2*n+250) (2*N+60) L e)) Exit.ret a' x→Q Exit.ret a' x) :
  Code.wp Tryd.prog c Q { tmps:=#[.pointer (some ⟨b,0,none⟩),s1,.int .i64 d,s3,.pointer (some ⟨w.heap.size,0,none⟩),s5,.pointer (some ⟨w.heap.size+1,0,none⟩),s7,s8,s9,Aa,Al,.pointer (some ⟨g,0,none⟩),.slice oa.h.ao oa.l.length oa.h.cap,.slice (some ⟨g+1,0,none⟩) 1 1,Ce,Cp,Da,Dl,Dt,Du,Dv,Dw,Dx,Dy,Dz,Ec,Ed,Ee,Ef,Eg,Eh,Ei,Ej,Ek,El,Em,En,Eo,Ep,Er,Es,Et,Eu,Ev,Ew,Ey,Ez,Fa,Fb,Fc,Fd,Fe,Ff,Fg,Fh,Fi,Fj,Fk,Fl,Fm,Fo,Fp,Fq,Fr,Fs,Ft,Fu,Fv,Fw,Fx,Fy,Fz,Ga,Gb,Gc,Gd,Ge,Gf,Gg,Gh,Gi,Gj,Gk,Gl,Gm,Gn,Gp,Gq,Gr,Gs,Gt,Gu,Gv,Gw,Gx,Gy,Gz,Ha,Hb,Ab,Ac,Ad,Ae,Af,Ag,Ah,Ai,Aj,Ak,Am,Ao,Ap,Aq,Ar,At,Au,Av,Aw,Ax,Ay,Az,Bc,Bd,Be,Bf,Bg,Bh,Bi,Bj,Bk,Bl,Bm,Bn,Bo,Bp,Bq,Br,Bs,Bt,Bu,Bv,Bw,Bx,By,Bz,Ca,Cb,Cc,Cd,Cf,Cg,Ch,Ci,Cj,Ck,Cl,Cm,Cn,Co,Cq,Cr,Cs,Ct,Cu,Cv,Cw,Cx,Cy,Cz,Db,Dc,Dd,De,Df,Dg,Dh,Di,Dj,Dk,Dm,Dn,Dp,Dq,Dr,Ds],defers:= [] } x2:=by
 have _:True:=by have _:=HE2;have _:=HE3;have _:=hn;have _:=HQY;have _:=ha;have _:=hd;have _:=hpa;trivial
 have hob:=HP2.o.ob;have hol:=HP2.o.qo.ole;have hg2:=HP2.o.hg;have hl2:=HP2.o.lt;have hwd:IntKind.i64.wrap (d - 1) =d - 1:=by rw [IntKind.wrap_i64];omega
 subst hc;conv=>enter [2];whnf
 go_wp2_with (go_at_call 34;refine(group_any HE2 _ b (p+1) L s qa oa (w.heap.size+2) g (g+1) N HP2.o.qo (by have:=HP2.o.ll;omega) HP2.o.bk (by omega) HP2.o.tp (by omega)).mono ?_;rintro e0 x3 ⟨q,o,rfl,hqo,⟨p2,hp3,hp4,ht3⟩,hg3⟩;have HQO:=ai hqo;have HP3:=ai (HP2.o.tape hg3 ht3);clear hqo ht3 hg3;obtain⟨e0,e1,e2,e3,e4,e5,e6,e7,e8,e9,e10,e11,e12,e13,e14⟩:=HP3.o.br.c15;obtain⟨f0,f1,f2,f3,f4,f5,f6,f7,f8,f9,f10,f11,f12,f13,f14⟩:=HP3.o.br.f15)
 have HD:=ai (HP3.o.fin (a:=a) (n:=2*n+250) (N:=2*N+60) HP3.o.gb HP3.o.tp HQO.o (by omega) ⟨by omega,by omega⟩)
 have HRR:=ai (box15 HP3.o.br (.int .i64 q.op) (.string q.table) (.int .i64 q.kind) (.bool q.all) (.int .i64 q.cond.op) (.int .i64 q.cond.typ) (.int .i64 q.cond.num) (.string q.cond.text) (.int .i64 q.cond.col) (.slice q.cond.kh.ao q.cond.kids.length q.cond.kh.cap) (.slice q.eh.ao q.exprs.length q.eh.cap) (.slice q.ah.ao q.aggs.length q.ah.cap) (.slice q.types.h.ao q.types.l.length q.types.h.cap) (.slice q.rh.ao q.rows.length q.rh.cap) (.slice q.qh.ao q.kids.length q.qh.cap));obtain⟨r0,r1,r2,r3,r4,r5,r6,r7,r8,r9,r10,r11,r12,r13,r14⟩:=HRR.o.c15
 try refine hQ _ _ ?_
 exact bodyPost_ret (v:=.tuple #[.agg #[.int .i64 q.op,.string q.table,.int .i64 q.kind,.bool q.all,.int .i64 q.cond.op,.int .i64 q.cond.typ,.int .i64 q.cond.num,.string q.cond.text,.int .i64 q.cond.col,.slice q.cond.kh.ao q.cond.kids.length q.cond.kh.cap,.slice q.eh.ao q.exprs.length q.eh.cap,.slice q.ah.ao q.aggs.length q.ah.cap,.slice q.types.h.ao q.types.l.length q.types.h.cap,.slice q.rh.ao q.rows.length q.rh.cap,.slice q.qh.ao q.kids.length q.qh.cap],.slice o.h.ao o.l.length o.h.cap]) (by simp [results,Tryd.results13,go_sem,r0,r1,r2,r3,r4,r5,r6,r7,r8,r9,r10,r11,r12,r13,r14]) rfl HD.o
end Go.Proofs.YtogalchclmmfgaaDoor
namespace Go.Proofs.YtogalchclmmfgaaDoor
open Go.RowKit
theorem qcase_sets (HE2:Hid (ExprAt 20 5 2)) (HE3:Hid (ExprAt 110 21 3)) {n N:Nat} {d:Int} (hd:2≤d∧d≤4) (hn:n≤100000) (HQY:Hid (QryAt n N (d - 1))) (w x2:World) (b a p g:Nat) (L:IL) (s:Sch) (E:Nat) (qa:Qu) (oa:IL) (ha:a+ (2*n+250)≤4611686018427370000) (hpa:a≤p∧p≤a+1+n) (HP2:Hid (QP w x2 b (p+1) L s E qa oa g N)) {Q:Exit→Act→World→Prop} {c:Code} {s1 s3 s5 s7 s8 s9 Aa Al Ce Cp Da Dl Dt Du Dv Dw Dx Dy Dz Ec Ed Ee Ef Eg Eh Ei Ej Ek El Em En Eo Ep Er Es Et Eu Ev Ew Ey Ez Fa Fb Fc Fd Fe Ff Fg Fh Fi Fj Fk Fl Fm Fo Fp Fq Fr Fs Ft Fu Fv Fw Fx Fy Fz Ga Gb Gc Gd Ge Gf Gg Gh Gi Gj Gk Gl Gm Gn Gp Gq Gr Gs Gt Gu Gv Gw Gx Gy Gz Ha Hb Ab Ac Ad Ae Af Ag Ah Ai Aj Ak Am Ao Ap Aq Ar At Au Av Aw Ax Ay Az Bc Bd Be Bf Bg Bh Bi Bj Bk Bl Bm Bn Bo Bp Bq Br Bs Bt Bu Bv Bw Bx By Bz Ca Cb Cc Cd Cf Cg Ch Ci Cj Ck Cl Cm Cn Co Cq Cr Cs Ct Cu Cv Cw Cx Cy Cz Db Dc Dd De Df Dg Dh Di Dj Dk Dm Dn Dp Dq Dr Ds:Value} (hc:c=codeAt [1,1,1,1,0,1,4,1,3,1,3,1,3,1,3,1,2] qbody) (hQ: ∀a' x,(bodyPost Tryd.prog Tryd.f13 (fun e w'=>QOut s w w' b a (2*n+250) (2*N+60) L e)) Exit.ret a' x→Q Exit.ret a' x) :
  Code.wp Tryd.prog c Q { tmps:=#[.pointer (some ⟨b,0,none⟩),s1,.int .i64 d,s3,.pointer (some ⟨w.heap.size,0,none⟩),s5,.pointer (some ⟨w.heap.size+1,0,none⟩),s7,s8,s9,Aa,Al,.pointer (some ⟨g,0,none⟩),.slice oa.h.ao oa.l.length oa.h.cap,.slice (some ⟨g+1,0,none⟩) 1 1,Ce,Cp,Da,Dl,Dt,Du,Dv,Dw,Dx,Dy,Dz,Ec,Ed,Ee,Ef,Eg,Eh,Ei,Ej,Ek,El,Em,En,Eo,Ep,Er,Es,Et,Eu,Ev,Ew,Ey,Ez,Fa,Fb,Fc,Fd,Fe,Ff,Fg,Fh,Fi,Fj,Fk,Fl,Fm,Fo,Fp,Fq,Fr,Fs,Ft,Fu,Fv,Fw,Fx,Fy,Fz,Ga,Gb,Gc,Gd,Ge,Gf,Gg,Gh,Gi,Gj,Gk,Gl,Gm,Gn,Gp,Gq,Gr,Gs,Gt,Gu,Gv,Gw,Gx,Gy,Gz,Ha,Hb,Ab,Ac,Ad,Ae,Af,Ag,Ah,Ai,Aj,Ak,Am,Ao,Ap,Aq,Ar,At,Au,Av,Aw,Ax,Ay,Az,Bc,Bd,Be,Bf,Bg,Bh,Bi,Bj,Bk,Bl,Bm,Bn,Bo,Bp,Bq,Br,Bs,Bt,Bu,Bv,Bw,Bx,By,Bz,Ca,Cb,Cc,Cd,Cf,Cg,Ch,Ci,Cj,Ck,Cl,Cm,Cn,Co,Cq,Cr,Cs,Ct,Cu,Cv,Cw,Cx,Cy,Cz,Db,Dc,Dd,De,Df,Dg,Dh,Di,Dj,Dk,Dm,Dn,Dp,Dq,Dr,Ds],defers:= [] } x2:=by
 have _:True:=by have _:=HE2;have _:=HE3;have _:=hn;have _:=HQY;have _:=ha;have _:=hd;have _:=hpa;trivial
 have hob:=HP2.o.ob;have hol:=HP2.o.qo.ole;have hg2:=HP2.o.hg;have hl2:=HP2.o.lt;have hwd:IntKind.i64.wrap (d - 1) =d - 1:=by rw [IntKind.wrap_i64];omega
 subst hc;conv=>enter [2];whnf
 have y4:=HP2.o.b4.cell (j:=0) rfl
 go_upto_region 31 with(go_at_call 13;refine(HQY.o _ b (p+1) L s E HP2.o.sk (by have:=HP2.o.hE;omega) HP2.o.tp (by omega)).mono ?_;rintro e0 x3 ⟨⟨qb,ob,rfl,hqo⟩,⟨p2,hp3,hp4,ht3⟩,hg3⟩;have HQB:=ai hqo;have hs3:=hg3.size;have HP3:=ai (HP2.o.tape hg3 ht3);clear hqo ht3 hg3)
 clear y4;have HBB:=ai (Box.new x3 qb.lit 57);have HP4:=ai (HP3.o.below (belA (.cells qb.lit 57)));have HQB4:=ai (HQB.o.below (belA (.cells qb.lit 57)));have hs4:x3.heap.size+1= (x3.alloc (.cells qb.lit 57)).heap.size:=by simp
 generalize x3.alloc (.cells qb.lit 57) =V4 at *;clear HP3 HQB;obtain⟨a0,a1,a2,a3,a4,a5,a6,a7,a8,a9,a10,a11,a12,a13,a14⟩:=HP4.o.b12.c15;obtain⟨c0,c1,c2,c3,c4,c5,c6,c7,c8,c9,c10,c11,c12,c13,c14⟩:=HBB.o.c15;have y4:=HP4.o.b4.cell (j:=0) rfl
 go_wp2_with (go_at_call 35;refine(sets_any _ b p2 L s qa qb oa ob E (w.heap.size+2) g x2.heap.size x3.heap.size N N HP4.o.qo HQB4.o (by have:=HP4.o.ll;omega) (by omega) (by omega) HP4.o.sk (by have:=HP4.o.hE;omega) HP4.o.tp (by omega)).mono ?_;rintro e0 x5 ⟨q,o,rfl,hqo,⟨p3,hp5,hp6,ht3⟩,hg3⟩;have HQO:=ai hqo;have HP5:=ai (HP4.o.tape hg3 ht3);clear hqo ht3 hg3;obtain⟨e0,e1,e2,e3,e4,e5,e6,e7,e8,e9,e10,e11,e12,e13,e14⟩:=HP5.o.br.c15;obtain⟨f0,f1,f2,f3,f4,f5,f6,f7,f8,f9,f10,f11,f12,f13,f14⟩:=HP5.o.br.f15)
 have HD:=ai (HP5.o.fin (a:=a) (n:=2*n+250) (N:=2*N+60) HP5.o.gb HP5.o.tp HQO.o (by omega) ⟨by omega,by omega⟩)
 have HRR:=ai (box15 HP5.o.br (.int .i64 q.op) (.string q.table) (.int .i64 q.kind) (.bool q.all) (.int .i64 q.cond.op) (.int .i64 q.cond.typ) (.int .i64 q.cond.num) (.string q.cond.text) (.int .i64 q.cond.col) (.slice q.cond.kh.ao q.cond.kids.length q.cond.kh.cap) (.slice q.eh.ao q.exprs.length q.eh.cap) (.slice q.ah.ao q.aggs.length q.ah.cap) (.slice q.types.h.ao q.types.l.length q.types.h.cap) (.slice q.rh.ao q.rows.length q.rh.cap) (.slice q.qh.ao q.kids.length q.qh.cap));obtain⟨r0,r1,r2,r3,r4,r5,r6,r7,r8,r9,r10,r11,r12,r13,r14⟩:=HRR.o.c15
 try refine hQ _ _ ?_
 exact bodyPost_ret (v:=.tuple #[.agg #[.int .i64 q.op,.string q.table,.int .i64 q.kind,.bool q.all,.int .i64 q.cond.op,.int .i64 q.cond.typ,.int .i64 q.cond.num,.string q.cond.text,.int .i64 q.cond.col,.slice q.cond.kh.ao q.cond.kids.length q.cond.kh.cap,.slice q.eh.ao q.exprs.length q.eh.cap,.slice q.ah.ao q.aggs.length q.ah.cap,.slice q.types.h.ao q.types.l.length q.types.h.cap,.slice q.rh.ao q.rows.length q.rh.cap,.slice q.qh.ao q.kids.length q.qh.cap],.slice o.h.ao o.l.length o.h.cap]) (by simp [results,Tryd.results13,go_sem,r0,r1,r2,r3,r4,r5,r6,r7,r8,r9,r10,r11,r12,r13,r14]) rfl HD.o
end Go.Proofs.YtogalchclmmfgaaDoor
namespace Go.Proofs.YtogalchclmmfgaaDoor
open Go.RowKit
def retPost (P:Program) (fn:Func) (R:Ending→World→Prop) :Exit→Act→World→Prop
 | .ret,a,w=>bodyPost P fn R .ret a w
 | _,_,_=>False
theorem retPost_ret {P:Program} {fn:Func} {R:Ending→World→Prop} {a:Act} {w:World} (h:bodyPost P fn R .ret a w) :retPost P fn R .ret a w:=h
theorem qcase_proj (HE2:Hid (ExprAt 20 5 2)) (HE3:Hid (ExprAt 110 21 3)) {n N:Nat} {d:Int} (hd:2≤d∧d≤4) (hn:n≤100000) (HQY:Hid (QryAt n N (d - 1))) (w x2:World) (b a p g:Nat) (L:IL) (s:Sch) (E:Nat) (qa:Qu) (oa:IL) (ha:a+ (2*n+250)≤4611686018427370000) (hpa:a≤p∧p≤a+1+n) (HP2:Hid (QP w x2 b (p+1) L s E qa oa g N)) {c:Code} {s1 s3 s5 s7 s8 s9 Aa Al Ce Cp Da Dl Dt Du Dv Dw Dx Dy Dz Ec Ed Ee Ef Eg Eh Ei Ej Ek El Em En Eo Ep Er Es Et Eu Ev Ew Ey Ez Fa Fb Fc Fd Fe Ff Fg Fh Fi Fj Fk Fl Fm Fo Fp Fq Fr Fs Ft Fu Fv Fw Fx Fy Fz Ga Gb Gc Gd Ge Gf Gg Gh Gi Gj Gk Gl Gm Gn Gp Gq Gr Gs Gt Gu Gv Gw Gx Gy Gz Ha Hb Ab Ac Ad Ae Af Ag Ah Ai Aj Ak Am Ao Ap Aq Ar At Au Av Aw Ax Ay Az Bc Bd Be Bf Bg Bh Bi Bj Bk Bl Bm Bn Bo Bp Bq Br Bs Bt Bu Bv Bw Bx By Bz Ca Cb Cc Cd Cf Cg Ch Ci Cj Ck Cl Cm Cn Co Cq Cr Cs Ct Cu Cv Cw Cx Cy Cz Db Dc Dd De Df Dg Dh Di Dj Dk Dm Dn Dp Dq Dr Ds:Value} (hc:c=codeAt [1,1,1,1,0,1,4,1,3,1,2] qbody) :
  Code.wp Tryd.prog c (retPost Tryd.prog Tryd.f13 (fun e w'=>QOut s w w' b a (2*n+250) (2*N+60) L e)) { tmps:=#[.pointer (some ⟨b,0,none⟩),s1,.int .i64 d,s3,.pointer (some ⟨w.heap.size,0,none⟩),s5,.pointer (some ⟨w.heap.size+1,0,none⟩),s7,s8,s9,Aa,Al,.pointer (some ⟨g,0,none⟩),.slice oa.h.ao oa.l.length oa.h.cap,.slice (some ⟨g+1,0,none⟩) 1 1,Ce,Cp,Da,Dl,Dt,Du,Dv,Dw,Dx,Dy,Dz,Ec,Ed,Ee,Ef,Eg,Eh,Ei,Ej,Ek,El,Em,En,Eo,Ep,Er,Es,Et,Eu,Ev,Ew,Ey,Ez,Fa,Fb,Fc,Fd,Fe,Ff,Fg,Fh,Fi,Fj,Fk,Fl,Fm,Fo,Fp,Fq,Fr,Fs,Ft,Fu,Fv,Fw,Fx,Fy,Fz,Ga,Gb,Gc,Gd,Ge,Gf,Gg,Gh,Gi,Gj,Gk,Gl,Gm,Gn,Gp,Gq,Gr,Gs,Gt,Gu,Gv,Gw,Gx,Gy,Gz,Ha,Hb,Ab,Ac,Ad,Ae,Af,Ag,Ah,Ai,Aj,Ak,Am,Ao,Ap,Aq,Ar,At,Au,Av,Aw,Ax,Ay,Az,Bc,Bd,Be,Bf,Bg,Bh,Bi,Bj,Bk,Bl,Bm,Bn,Bo,Bp,Bq,Br,Bs,Bt,Bu,Bv,Bw,Bx,By,Bz,Ca,Cb,Cc,Cd,Cf,Cg,Ch,Ci,Cj,Ck,Cl,Cm,Cn,Co,Cq,Cr,Cs,Ct,Cu,Cv,Cw,Cx,Cy,Cz,Db,Dc,Dd,De,Df,Dg,Dh,Di,Dj,Dk,Dm,Dn,Dp,Dq,Dr,Ds],defers:= [] } x2:=by
 have _:True:=by have _:=HE2;have _:=HE3;have _:=hn;have _:=HQY;have _:=ha;have _:=hd;have _:=hpa;trivial
 have hob:=HP2.o.ob;have hol:=HP2.o.qo.ole;have hg2:=HP2.o.hg;have hl2:=HP2.o.lt;have hwd:IntKind.i64.wrap (d - 1) =d - 1:=by rw [IntKind.wrap_i64];omega
 subst hc;conv=>enter [2];whnf
 have HBX2:=ai (Box.new x2 #[.int .i64 4,.string ⟨#[]⟩,.int .i64 0,.bool false,.int .i64 0,.int .i64 0,.int .i64 0,.string ⟨#[]⟩,.int .i64 0,.slice none 0 0,.slice none 0 0,.slice none 0 0,.slice none 0 0,.slice none 0 0,.slice (some ⟨g+1,0,none⟩) 1 1] 57);have HP3:=ai (HP2.o.below (belA (.cells #[.int .i64 4,.string ⟨#[]⟩,.int .i64 0,.bool false,.int .i64 0,.int .i64 0,.int .i64 0,.string ⟨#[]⟩,.int .i64 0,.slice none 0 0,.slice none 0 0,.slice none 0 0,.slice none 0 0,.slice none 0 0,.slice (some ⟨g+1,0,none⟩) 1 1] 57)));go_upto_region 20 with(go_at_call 32;refine(mtypes_any _ b (p+1) L 3 ⟨by decide,by decide⟩ HP3.o.tp (by omega)).mono ?_;rintro e0 x3 ⟨⟨o,rfl,hoi,how,ho1,ho3,hot⟩,⟨p2,hp3,hp4,ht3⟩,hg3⟩;have HOI:=ai hoi;have HOW:=ai (show 0<o.l.length→x2.heap.size+1≤o.h.b from fun hp=>by have h1:=how.ge hp;simpa using h1);have HOT:=ai hot;have HP4:=ai (HP3.o.tape hg3 ht3);have HBX:=ai (HBX2.o.grown hg3 (by have:=HP2.o.ll;simp;omega));clear hoi how hot ht3 hg3)
 clear HBX2 HP3;generalize hbp:x2.heap.size=bp at *;have HGS:=ai (GS.start (kd:=.slice (some ⟨g+1,0,none⟩) 1 1) (op:=4) HP4.o.gb (by omega) HP4.o.ll HP4.o.tp HBX.o)
 have HTS0:=ai (show∀x,Kept b bp x3 x→oa.In x from fun x hx=>(HP4.o.qo.od.kept hx (fun hd=>by have:=hd.1;have:=HP4.o.ll;omega) (fun hd=>by have:=hd.2;omega)).now)
 have HOK:=ai (show∀x,Kept b bp x3 x→o.In x from fun x hx=>il_kept2 HOI.o hx (fun hp=>by have:=HOW.o hp;have:=HP4.o.ll;omega) (fun hp=>by have:=HOW.o hp;omega))
 have hsz3:bp<x3.heap.size:=HBX.o.lt;clear HBX;go_wp2;go_loopw [17] (fun i z=>∃(m:Nat) (eh:Hd) (xs:List Ex) (q:Nat) (lits:List (Nat×Array Value×TypeId)),i = .int .i64 m∧m≤o.l.length∧(p2≤q∧q≤p2+20*m)∧Hid (xs.length=m)∧Hid (Ex.sizes xs≤5*m)∧Hid (ColsAre oa.l xs (o.l.take m))∧Hid (GS w x3 z b bp L q 4 (.slice (some ⟨g+1,0,none⟩) 1 1) (.slice eh.ao xs.length eh.cap) (.slice none 0 0) eh xs nilHd [] nilHd [] [] none lits)) (fun i _=>o.l.length - (intOf i).toNat)
 case atStart=>exact⟨0,nilHd,[],p2,[],rfl,Nat.zero_le _,⟨Nat.le_refl _,Nat.le_refl _⟩,rfl,by show Ex.sizes []≤0;simp [Ex.sizes],ColsAre.nil _,HGS.o⟩
 case round=>
  obtain⟨m,eh,xs,q,lits,rfl,hm,hq,HXM,HXS,HCA,HG⟩:=hrel;clear HGS;by_cases hlt:m<o.l.length
  ·have hlti: (m:Int) <o.l.length:=by omega
   have HIN:=ai (HOK.o _ HG.o.kp);have hix:=IL.ix HIN.o hlt;have c0:=int_at HIN.o.1 hlt;have hbk:=HIN.o.1.blk hlt;have HTK:=ai (HOT.o _ (List.getElem_mem hlt));have HTA:=ai (List.take_succ_eq_append_getElem hlt);obtain⟨t,htt⟩ : ∃t,o.l[m] =t:=⟨_,rfl⟩;rw [htt]at c0 HTK HTA;clear htt;have hxl:xs.length≤8:=by have:=HXM.o;omega
   have hwm:IntKind.i64.wrap ((m:Int) +1) = ((m+1:Nat) :Int):=by rw [IntKind.wrap_i64];omega
   have HGI:=ai HG.o;have k0:=HGI.o.cell (j:=10) rfl;have k1: ∀o,(wr.alloc o).cell? ⟨bp,10,none⟩ =some (.slice eh.ao xs.length eh.cap):=fun o=>(HGI.o.alloc o).cell (j:=10) rfl;have k2: ∀o o',((wr.alloc o).alloc o').cell? ⟨bp,10,none⟩ =some (.slice eh.ao xs.length eh.cap):=fun o o'=>((HGI.o.alloc o).alloc o').cell (j:=10) rfl;have f0:=HGI.o.bx.fr 10
   go_upto_region 23 with fail
   go_region_law (first
    | (refine step_gs_E (by first|exact HGI.o|exact HGI.o.lit _ _|exact(HGI.o.lit _ _).lit _ _|exact HGI.o.drew|exact(HGI.o.lit _ _).drew|exact((HGI.o.lit _ _).lit _ _).drew) (by rfl) _ _ (by rfl) rfl rfl (by simp) (by omega) ?_;intro g' cap z3 hg3;have HGI:=ai hg3;clear hg3;have k0:=HGI.o.cell (j:=10) rfl;have k1: ∀o,(z3.alloc o).cell? ⟨bp,10,none⟩ =some (.slice eh.ao xs.length eh.cap):=fun o=>(HGI.o.alloc o).cell (j:=10) rfl;have k2: ∀o o',((z3.alloc o).alloc o').cell? ⟨bp,10,none⟩ =some (.slice eh.ao xs.length eh.cap):=fun o o'=>((HGI.o.alloc o).alloc o').cell (j:=10) rfl;have f0:=HGI.o.bx.fr 10)
    | (go_simp;go_at_call 19;refine(gs_expr HE2 (by first|exact HGI.o|exact HGI.o.lit _ _|exact(HGI.o.lit _ _).lit _ _|exact HGI.o.drew|exact(HGI.o.lit _ _).drew|exact((HGI.o.lit _ _).lit _ _).drew) HTS0 (by omega) hob HTK.o (by omega)).mono ?_;rintro _ x4 ⟨e,q2,rfl,hg3,hpp,hes,hety,-⟩;have HGI:=ai hg3;have HES:=ai hes;have HETY:=ai hety;clear hg3 hes hety;have k0:=HGI.o.cell (j:=10) rfl;have k1: ∀o,(x4.alloc o).cell? ⟨bp,10,none⟩ =some (.slice eh.ao xs.length eh.cap):=fun o=>(HGI.o.alloc o).cell (j:=10) rfl;have k2: ∀o o',((x4.alloc o).alloc o').cell? ⟨bp,10,none⟩ =some (.slice eh.ao xs.length eh.cap):=fun o o'=>((HGI.o.alloc o).alloc o').cell (j:=10) rfl;have f0:=HGI.o.bx.fr 10))
   all_goals
    have HGF:=ai (HGI.o.storeE1 (n:=xs.length+1) (by simp))
    go_wp2_with fail
    go_roundw
   all_goals first
    | (case rel=>exact⟨m+1,_,_,q2,_,by go_num,by omega,by omega,(by show Hid _;rw [List.length_append,HXM.o];exact ai rfl),(by show Hid _;rw [exs_snoc];have h1:=HXS.o;have h2:=HES.o;exact ai (by omega)),(by show Hid _;rw [HTA.o];exact HCA.o.snoc HETY.o),HGF.o⟩)
    | (case measure=>simp [intOf];omega)
    | trace_state
  ·have hlti: ¬(m:Int) <o.l.length:=by omega
   have hmm:m=o.l.length:=by omega
   have HCF:=ai (show ColsAre oa.l xs o.l from by have h:=HCA.o;rw [hmm,List.take_length]at h;exact h)
   have HPF:=ai (HP4.o.kept HG.o.kp (by omega) HG.o.gb HG.o.tp)
   have HQF:=ai (proj_qo HP4.o HG.o (by omega) (HOK.o _ HG.o.kp) (fun hp=>by have:=HOW.o hp;omega) (by omega) HOT.o (by have:=HXM.o;omega) (by have:=HXS.o;omega) HCF.o)
   clear hmm;obtain⟨y0,y1,y2,y3,y4,y5,y6,y7,y8,y9,y10,y11,y12,y13,y14⟩:=HG.o.bx.c15;obtain⟨e0,e1,e2,e3,e4,e5,e6,e7,e8,e9,e10,e11,e12,e13,e14⟩:=HPF.o.br.c15;obtain⟨f0,f1,f2,f3,f4,f5,f6,f7,f8,f9,f10,f11,f12,f13,f14⟩:=HPF.o.br.f15
   go_wp2_with fail
   have HD:=ai (HPF.o.fin (a:=a) (n:=2*n+250) (N:=2*N+60) HPF.o.gb HPF.o.tp HQF.o (by omega) ⟨by omega,by omega⟩)
   have HRR:=ai (box15 HPF.o.br (.int .i64 4) (.string ⟨#[]⟩) (.int .i64 0) (.bool false) (.int .i64 0) (.int .i64 0) (.int .i64 0) (.string ⟨#[]⟩) (.int .i64 0) (.slice none 0 0) (.slice eh.ao xs.length eh.cap) (.slice none 0 0) (.slice none 0 0) (.slice none 0 0) (.slice (some ⟨g+1,0,none⟩) 1 1));obtain⟨r0,r1,r2,r3,r4,r5,r6,r7,r8,r9,r10,r11,r12,r13,r14⟩:=HRR.o.c15;refine retPost_ret ?_
   exact bodyPost_ret (v:=.tuple #[.agg #[.int .i64 4,.string ⟨#[]⟩,.int .i64 0,.bool false,.int .i64 0,.int .i64 0,.int .i64 0,.string ⟨#[]⟩,.int .i64 0,.slice none 0 0,.slice eh.ao xs.length eh.cap,.slice none 0 0,.slice none 0 0,.slice none 0 0,.slice (some ⟨g+1,0,none⟩) 1 1],.slice o.h.ao o.l.length o.h.cap]) (by simp [results,Tryd.results13,go_sem,r0,r1,r2,r3,r4,r5,r6,r7,r8,r9,r10,r11,r12,r13,r14]) rfl HD.o
end Go.Proofs.YtogalchclmmfgaaDoor

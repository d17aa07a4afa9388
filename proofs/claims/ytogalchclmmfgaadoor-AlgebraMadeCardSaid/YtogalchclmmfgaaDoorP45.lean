/- A part of the proof of AlgebraMade. -/
import Derived.Test.YtogalchclmmfgaaDoorP41
import Derived.Test.YtogalchclmmfgaaDoorP01
import Derived.Test.YtogalchclmmfgaaDoorP03
set_option maxRecDepth 100000
set_option maxHeartbeats 16000000
namespace Go.Proofs.YtogalchclmmfgaaDoor
open Go.RowKit
theorem box_cells15 {w:World} {g:Nat} {T:TypeId} {v0 v1 v2 v3 v4 v5 v6 v7 v8 v9 v10 v11 v12 v13 v14:Value} (h:Box w g #[v0,v1,v2,v3,v4,v5,v6,v7,v8,v9,v10,v11,v12,v13,v14] T) :w.cell? ⟨g,0,none⟩ =some v0∧w.cell? ⟨g,1,none⟩ =some v1∧w.cell? ⟨g,2,none⟩ =some v2∧w.cell? ⟨g,3,none⟩ =some v3∧w.cell? ⟨g,4,none⟩ =some v4∧w.cell? ⟨g,5,none⟩ =some v5∧w.cell? ⟨g,6,none⟩ =some v6∧w.cell? ⟨g,7,none⟩ =some v7∧w.cell? ⟨g,8,none⟩ =some v8∧w.cell? ⟨g,9,none⟩ =some v9∧w.cell? ⟨g,10,none⟩ =some v10∧w.cell? ⟨g,11,none⟩ =some v11∧w.cell? ⟨g,12,none⟩ =some v12∧w.cell? ⟨g,13,none⟩ =some v13∧w.cell? ⟨g,14,none⟩ =some v14:=
 ⟨h.cell (j:=0) rfl,h.cell (j:=1) rfl,h.cell (j:=2) rfl,h.cell (j:=3) rfl,h.cell (j:=4) rfl,h.cell (j:=5) rfl,h.cell (j:=6) rfl,h.cell (j:=7) rfl,h.cell (j:=8) rfl,h.cell (j:=9) rfl,h.cell (j:=10) rfl,h.cell (j:=11) rfl,h.cell (j:=12) rfl,h.cell (j:=13) rfl,h.cell (j:=14) rfl⟩
theorem box_fr15 {w:World} {g:Nat} {cs:Array Value} {T:TypeId} (h:Box w g cs T) :w.frozen? ⟨g,0,none⟩ =false∧w.frozen? ⟨g,1,none⟩ =false∧w.frozen? ⟨g,2,none⟩ =false∧w.frozen? ⟨g,3,none⟩ =false∧w.frozen? ⟨g,4,none⟩ =false∧w.frozen? ⟨g,5,none⟩ =false∧w.frozen? ⟨g,6,none⟩ =false∧w.frozen? ⟨g,7,none⟩ =false∧w.frozen? ⟨g,8,none⟩ =false∧w.frozen? ⟨g,9,none⟩ =false∧w.frozen? ⟨g,10,none⟩ =false∧w.frozen? ⟨g,11,none⟩ =false∧w.frozen? ⟨g,12,none⟩ =false∧w.frozen? ⟨g,13,none⟩ =false∧w.frozen? ⟨g,14,none⟩ =false:=
 ⟨h.fr 0,h.fr 1,h.fr 2,h.fr 3,h.fr 4,h.fr 5,h.fr 6,h.fr 7,h.fr 8,h.fr 9,h.fr 10,h.fr 11,h.fr 12,h.fr 13,h.fr 14⟩
def JP (b p2:Nat) (L:IL) (qa qb:Qu) (o2:IL) :List (Nat×Nat×Value):= [(0,164,.pointer (some ⟨b,0,none⟩)),(1,165,.int .i64 (L.next p2 6)),(2,166,.int .i64 (1+L.next p2 6)),(3,167,.pointer (some ⟨b,0,none⟩)),(4,168,.slice o2.h.ao o2.l.length o2.h.cap),(6,170,.agg #[.int .i64 qa.op,.string qa.table,.int .i64 qa.kind,.bool qa.all,.int .i64 qa.cond.op,.int .i64 qa.cond.typ,.int .i64 qa.cond.num,.string qa.cond.text,.int .i64 qa.cond.col,.slice qa.cond.kh.ao qa.cond.kids.length qa.cond.kh.cap,.slice qa.eh.ao qa.exprs.length qa.eh.cap,.slice qa.ah.ao qa.aggs.length qa.ah.cap,.slice qa.types.h.ao qa.types.l.length qa.types.h.cap,.slice qa.rh.ao qa.rows.length qa.rh.cap,.slice qa.qh.ao qa.kids.length qa.qh.cap]),(7,171,.agg #[.int .i64 qb.op,.string qb.table,.int .i64 qb.kind,.bool qb.all,.int .i64 qb.cond.op,.int .i64 qb.cond.typ,.int .i64 qb.cond.num,.string qb.cond.text,.int .i64 qb.cond.col,.slice qb.cond.kh.ao qb.cond.kids.length qb.cond.kh.cap,.slice qb.eh.ao qb.exprs.length qb.eh.cap,.slice qb.ah.ao qb.aggs.length qb.ah.cap,.slice qb.types.h.ao qb.types.l.length qb.types.h.cap,.slice qb.rh.ao qb.rows.length qb.rh.cap,.slice qb.qh.ao qb.kids.length qb.qh.cap])]
structure JL (p2:Nat) (L:IL) (qa qb:Qu) (F:Nat→Bool) (s:Nat→Value) (p':Nat) (pend:List Ex) (lits:List (Nat×Array Value×TypeId)) :Prop where
 c5:F 5=true→F 1=true
 a1:F 1=false→p'=p2
 a2:F 1=true→F 5=false→p'=p2+1
 a3:F 5=false→pend = []
 a5:F 5=true→∃e:Ex,pend = [e]∧s 169 = .agg #[.int .i64 e.op,.int .i64 e.typ,.int .i64 e.num,.string e.text,.int .i64 e.col,.slice e.kh.ao e.kids.length e.kh.cap]∧(p2≤p'∧p'≤p2+111)∧e.size≤21
 a8:F 8=true→∃gl,s 172 = .slice (some ⟨gl,0,none⟩) 2 2∧(gl,#[.int .i64 qa.op,.string qa.table,.int .i64 qa.kind,.bool qa.all,.int .i64 qa.cond.op,.int .i64 qa.cond.typ,.int .i64 qa.cond.num,.string qa.cond.text,.int .i64 qa.cond.col,.slice qa.cond.kh.ao qa.cond.kids.length qa.cond.kh.cap,.slice qa.eh.ao qa.exprs.length qa.eh.cap,.slice qa.ah.ao qa.aggs.length qa.ah.cap,.slice qa.types.h.ao qa.types.l.length qa.types.h.cap,.slice qa.rh.ao qa.rows.length qa.rh.cap,.slice qa.qh.ao qa.kids.length qa.qh.cap,.int .i64 qb.op,.string qb.table,.int .i64 qb.kind,.bool qb.all,.int .i64 qb.cond.op,.int .i64 qb.cond.typ,.int .i64 qb.cond.num,.string qb.cond.text,.int .i64 qb.cond.col,.slice qb.cond.kh.ao qb.cond.kids.length qb.cond.kh.cap,.slice qb.eh.ao qb.exprs.length qb.eh.cap,.slice qb.ah.ao qb.aggs.length qb.ah.cap,.slice qb.types.h.ao qb.types.l.length qb.types.h.cap,.slice qb.rh.ao qb.rows.length qb.rh.cap,.slice qb.qh.ao qb.kids.length qb.qh.cap],57)∈lits
 a9:F 9=true→F 5=true∧∃e gl,pend = [e]∧(gl,#[.int .i64 qa.op,.string qa.table,.int .i64 qa.kind,.bool qa.all,.int .i64 qa.cond.op,.int .i64 qa.cond.typ,.int .i64 qa.cond.num,.string qa.cond.text,.int .i64 qa.cond.col,.slice qa.cond.kh.ao qa.cond.kids.length qa.cond.kh.cap,.slice qa.eh.ao qa.exprs.length qa.eh.cap,.slice qa.ah.ao qa.aggs.length qa.ah.cap,.slice qa.types.h.ao qa.types.l.length qa.types.h.cap,.slice qa.rh.ao qa.rows.length qa.rh.cap,.slice qa.qh.ao qa.kids.length qa.qh.cap,.int .i64 qb.op,.string qb.table,.int .i64 qb.kind,.bool qb.all,.int .i64 qb.cond.op,.int .i64 qb.cond.typ,.int .i64 qb.cond.num,.string qb.cond.text,.int .i64 qb.cond.col,.slice qb.cond.kh.ao qb.cond.kids.length qb.cond.kh.cap,.slice qb.eh.ao qb.exprs.length qb.eh.cap,.slice qb.ah.ao qb.aggs.length qb.ah.cap,.slice qb.types.h.ao qb.types.l.length qb.types.h.cap,.slice qb.rh.ao qb.rows.length qb.rh.cap,.slice qb.qh.ao qb.kids.length qb.qh.cap],57)∈lits∧s 173 = .agg #[.int .i64 5,.string ⟨#[]⟩,.int .i64 (1+L.next p2 6),.bool false,.int .i64 e.op,.int .i64 e.typ,.int .i64 e.num,.string e.text,.int .i64 e.col,.slice e.kh.ao e.kids.length e.kh.cap,.slice none 0 0,.slice none 0 0,.slice none 0 0,.slice none 0 0,.slice (some ⟨gl,0,none⟩) 2 2]
 a10:F 10=true→∃g,s 23 = .pointer (some ⟨g,0,none⟩)∧(g,#[.int .i64 0,.string ⟨#[]⟩,.int .i64 0,.bool false,.int .i64 0,.int .i64 0,.int .i64 0,.string ⟨#[]⟩,.int .i64 0,.slice none 0 0,.slice none 0 0,.slice none 0 0,.slice none 0 0,.slice none 0 0,.slice none 0 0],57)∈lits
structure JI (y2:World) (b p2:Nat) (L:IL) (qa qb:Qu) (o2:IL) (F:Nat→Bool) (s:Nat→Value) (w:World) :Prop where
 pv: ∀e∈JP b p2 L qa qb o2,F e.1=true→s e.2.1=e.2.2
 dn:F 11=true→(∀j,j<12→F j=true)∧JR y2 b p2 L #[.int .i64 qa.op,.string qa.table,.int .i64 qa.kind,.bool qa.all,.int .i64 qa.cond.op,.int .i64 qa.cond.typ,.int .i64 qa.cond.num,.string qa.cond.text,.int .i64 qa.cond.col,.slice qa.cond.kh.ao qa.cond.kids.length qa.cond.kh.cap,.slice qa.eh.ao qa.exprs.length qa.eh.cap,.slice qa.ah.ao qa.aggs.length qa.ah.cap,.slice qa.types.h.ao qa.types.l.length qa.types.h.cap,.slice qa.rh.ao qa.rows.length qa.rh.cap,.slice qa.qh.ao qa.kids.length qa.qh.cap,.int .i64 qb.op,.string qb.table,.int .i64 qb.kind,.bool qb.all,.int .i64 qb.cond.op,.int .i64 qb.cond.typ,.int .i64 qb.cond.num,.string qb.cond.text,.int .i64 qb.cond.col,.slice qb.cond.kh.ao qb.cond.kids.length qb.cond.kh.cap,.slice qb.eh.ao qb.exprs.length qb.eh.cap,.slice qb.ah.ao qb.aggs.length qb.ah.cap,.slice qb.types.h.ao qb.types.l.length qb.types.h.cap,.slice qb.rh.ao qb.rows.length qb.rh.cap,.slice qb.qh.ao qb.kids.length qb.qh.cap] (s 23) w
 lv:F 11=false→∃p' pend lits,BL y2 w b p' L pend lits∧JL p2 L qa qb F s p' pend lits
section
variable {y2 w x:World} {b p2:Nat} {L:IL} {qa qb:Qu} {o2:IL} {F:Nat→Bool} {s:Nat→Value}
theorem JI.f11 (h:JI y2 b p2 L qa qb o2 F s w) {i:Nat} (hi:i<12) (hF:F i=false) :F 11=false:=by
 cases h1:F 11 with
 | false=>rfl
 | true=>rw [(h.dn h1).1 i hi]at hF;cases hF
theorem jp_upd (hp: ∀e∈JP b p2 L qa qb o2,F e.1=true→s e.2.1=e.2.2) {i j:Nat} {v:Value} (hm: (i,j,v)∈JP b p2 L qa qb o2) : ∀e∈JP b p2 L qa qb o2,upd F i e.1=true→(if e.2.1=j then v else s e.2.1) =e.2.2:=by
 intro e he h;by_cases hij:e= (i,j,v)
 ·rw [hij];simp
 ·have h2:e.1≠i∧e.2.1≠j:=by
   simp only [JP,List.mem_cons,List.not_mem_nil,or_false]at he hm;rcases hm with hm|hm|hm|hm|hm|hm|hm<;>rcases he with he|he|he|he|he|he|he<;>first
    | exact absurd (he.trans hm.symm) hij
    | (rw [he];injection hm with h1 h2;injection h2 with h2 h3;subst h1 h2;exact⟨by simp,by simp⟩)
  rw [if_neg h2.2];exact hp e he (by unfold upd at h;rwa [if_neg h2.1]at h)
theorem jp_oth (hp: ∀e∈JP b p2 L qa qb o2,F e.1=true→s e.2.1=e.2.2) {i:Nat} {s':Nat→Value} (hi: ∀e∈JP b p2 L qa qb o2,e.1≠i) (hs: ∀e∈JP b p2 L qa qb o2,s' e.2.1=s e.2.1) : ∀e∈JP b p2 L qa qb o2,upd F i e.1=true→s' e.2.1=e.2.2:=by
 intro e he h;rw [hs e he];exact hp e he (by unfold upd at h;rwa [if_neg (hi e he)]at h)
theorem jp_all {p:Nat×Nat×Value→Prop} (h: ∀v,p (0,164,v)∧p (1,165,v)∧p (2,166,v)∧p (3,167,v)∧p (4,168,v)∧p (6,170,v)∧p (7,171,v)) : ∀e∈JP b p2 L qa qb o2,p e:=by
 intro e he;simp only [JP,List.mem_cons,List.not_mem_nil,or_false]at he;rcases he with rfl|rfl|rfl|rfl|rfl|rfl|rfl
 ·exact(h _).1
 ·exact(h _).2.1
 ·exact(h _).2.2.1
 ·exact(h _).2.2.2.1
 ·exact(h _).2.2.2.2.1
 ·exact(h _).2.2.2.2.2.1
 ·exact(h _).2.2.2.2.2.2
theorem JI.start (h:BL y2 w b p2 L [] []) :JI y2 b p2 L qa qb o2 (fun _=>false) s w:=
 ⟨fun e _ h=>(by cases h),fun h=>(by cases h),fun _=>⟨p2,[],[],h,⟨fun h=>(by cases h),fun _=>rfl,fun h=>(by cases h),fun _=>rfl,fun h=>(by cases h),fun h=>(by cases h),fun h=>(by cases h),fun h=>(by cases h)⟩⟩⟩
theorem JI.pure (h:JI y2 b p2 L qa qb o2 F s w) {i j:Nat} {v:Value} (hm: (i,j,v)∈JP b p2 L qa qb o2) (hi:i≠1) (hF:F i=false) :JI y2 b p2 L qa qb o2 (upd F i) (fun k=>if k=j then v else s k) w:=by
 have hne:i≠5∧i≠8∧i≠9∧i≠10∧i≠11∧i<12∧j≠169∧j≠172∧j≠173∧j≠23:=by
  simp only [JP,List.mem_cons,List.not_mem_nil,or_false]at hm;rcases hm with hm|hm|hm|hm|hm|hm|hm<;>(injection hm with h1 h2;injection h2 with h2 h3;subst h1 h2;decide)
 obtain⟨n5,n8,n9,n10,n11,n12,m1,m2,m3,m4⟩:=hne;have u: ∀k,k≠i→upd F i k=F k:=fun k hk=>if_neg hk
 have h11:=h.f11 n12 hF;refine⟨jp_upd h.pv hm,fun hh=>(by rw [u 11 (Ne.symm n11),h11]at hh;cases hh),fun _=> ?_⟩
 obtain⟨p',pend,lits,hB,hJ⟩:=h.lv h11;refine⟨p',pend,lits,hB,?_⟩
 constructor
 ·rw [u 5 (Ne.symm n5),u 1 (Ne.symm hi)];exact hJ.c5
 ·rw [u 1 (Ne.symm hi)];exact hJ.a1
 ·rw [u 1 (Ne.symm hi),u 5 (Ne.symm n5)];exact hJ.a2
 ·rw [u 5 (Ne.symm n5)];exact hJ.a3
 ·rw [u 5 (Ne.symm n5)];(try dsimp only);rw [if_neg (Ne.symm m1)];exact hJ.a5
 ·rw [u 8 (Ne.symm n8)];(try dsimp only);rw [if_neg (Ne.symm m2)];exact hJ.a8
 ·rw [u 9 (Ne.symm n9),u 5 (Ne.symm n5)];(try dsimp only);rw [if_neg (Ne.symm m3)];exact hJ.a9
 ·rw [u 10 (Ne.symm n10)];(try dsimp only);rw [if_neg (Ne.symm m4)];exact hJ.a10
end
theorem qregion38 (HE3:Hid (ExprAt 110 21 3)) {y2:World} {b p2 g g3:Nat} {L:IL} {qa qb:Qu} {o2:IL} (HA:Hid (Box y2 g qa.lit 57)) (HB:Hid (Box y2 g3 qb.lit 57)) (hgb:g≠b) (hgb3:g3≠b) (HBL:Hid (BL y2 y2 b p2 L [] [])) (HTSJ:Hid (∀x,Kept b b y2 x→o2.In x)) (hle2:o2.l.length≤16) (hb3:0<o2.l.length→o2.h.b≠b) (hp2:p2≤4611686018427369800)
  {Q:Exit→Act→World→Prop} {c:Code} {s1 s2 s3 s4 s5 s6 s7 s8 s9 Aa Al Bk Bv Cg Cr Dc Dn Dv Dw Dx Dy Dz Ec Ed Ee Ef Eg Eh Ei Ej Ek El Em En Eo Ep Er Es Et Eu Ev Ew Ey Ez Fa Fb Fc Fd Fe Ff Fg Fh Fi Fj Fk Fl Fm Fo Fp Fq Fr Fs Ft Fu Fv Fw Fx Fy Fz Ga Gb Gc Gd Ge Gf Gg Gh Gi Gj Gk Gl Gm Gn Gp Gq Gr Gs Gt Gu Gv Gw Gx Gy Gz Ha Hb Ab Ac Ad Ae Af Ag Ah Ai Aj Ak Am Ao Ap Aq Ar At Au Av Aw Ax Ay Az Bc Bd Be Bf Bg Bh Bi Bj Bl Bm Bn Bo Bp Bq Br Bs Bt Bu Bw Bx By Bz Ca Cb Cc Cd Ce Cf Ch Ci Cj Ck Cl Cm Cn Co Cp Cq Cs Ct Cu Cv Cw Cx Cy Cz Da Db Dd De Df Dg Dh Di Dj Dk Dl Dm Dp Dq Dr Ds Dt Du:Value} (hc:c=codeAt [1,1,1,1,1,1,1,1,1,1,0] qbody) (hN: ∀(Hn Hc He Hf Hg Hh Hi Hj Hk Hl Hm:Value) (x:World),Hid (JR y2 b p2 L #[.int .i64 qa.op,.string qa.table,.int .i64 qa.kind,.bool qa.all,.int .i64 qa.cond.op,.int .i64 qa.cond.typ,.int .i64 qa.cond.num,.string qa.cond.text,.int .i64 qa.cond.col,.slice qa.cond.kh.ao qa.cond.kids.length qa.cond.kh.cap,.slice qa.eh.ao qa.exprs.length qa.eh.cap,.slice qa.ah.ao qa.aggs.length qa.ah.cap,.slice qa.types.h.ao qa.types.l.length qa.types.h.cap,.slice qa.rh.ao qa.rows.length qa.rh.cap,.slice qa.qh.ao qa.kids.length qa.qh.cap,.int .i64 qb.op,.string qb.table,.int .i64 qb.kind,.bool qb.all,.int .i64 qb.cond.op,.int .i64 qb.cond.typ,.int .i64 qb.cond.num,.string qb.cond.text,.int .i64 qb.cond.col,.slice qb.cond.kh.ao qb.cond.kids.length qb.cond.kh.cap,.slice qb.eh.ao qb.exprs.length qb.eh.cap,.slice qb.ah.ao qb.aggs.length qb.ah.cap,.slice qb.types.h.ao qb.types.l.length qb.types.h.cap,.slice qb.rh.ao qb.rows.length qb.rh.cap,.slice qb.qh.ao qb.kids.length qb.qh.cap] Hn x)→Q Exit.normal { tmps:=#[.pointer (some ⟨b,0,none⟩),s1,s2,s3,s4,s5,s6,s7,s8,s9,Aa,Al,.pointer (some ⟨g,0,none⟩),Bk,Bv,Cg,Cr,Dc,Dn,Dv,.pointer (some ⟨g3,0,none⟩),Dw,.slice o2.h.ao o2.l.length o2.h.cap,Hn,Dy,Dz,Ec,Ed,Ee,Ef,Eg,Eh,Ei,Ej,Ek,El,Em,En,Eo,Ep,Er,Es,Et,Eu,Ev,Ew,Ey,Ez,Fa,Fb,Fc,Fd,Fe,Ff,Fg,Fh,Fi,Fj,Fk,Fl,Fm,Fo,Fp,Fq,Fr,Fs,Ft,Fu,Fv,Fw,Fx,Fy,Fz,Ga,Gb,Gc,Gd,Ge,Gf,Gg,Gh,Gi,Gj,Gk,Gl,Gm,Gn,Gp,Gq,Gr,Gs,Gt,Gu,Gv,Gw,Gx,Gy,Gz,Ha,Hb,Ab,Ac,Ad,Ae,Af,Ag,Ah,Ai,Aj,Ak,Am,Ao,Ap,Aq,Ar,At,Au,Av,Aw,Ax,Ay,Az,Bc,Bd,Be,Bf,Bg,Bh,Bi,Bj,Bl,Bm,Bn,Bo,Bp,Bq,Br,Bs,Bt,Bu,Bw,Bx,By,Bz,Ca,Cb,Cc,Cd,Ce,Cf,Ch,Ci,Cj,Ck,Cl,Cm,Cn,Co,Cp,Cq,Cs,Ct,Cu,Cv,Hc,He,Hf,Hg,Hh,Hi,Hj,Hk,Hl,Hm,Dh,Di,Dj,Dk,Dl,Dm,Dp,Dq,Dr,Ds,Dt,Du],defers:= [] } x) :
  Code.wp Tryd.prog c Q { tmps:=#[.pointer (some ⟨b,0,none⟩),s1,s2,s3,s4,s5,s6,s7,s8,s9,Aa,Al,.pointer (some ⟨g,0,none⟩),Bk,Bv,Cg,Cr,Dc,Dn,Dv,.pointer (some ⟨g3,0,none⟩),Dw,.slice o2.h.ao o2.l.length o2.h.cap,Dx,Dy,Dz,Ec,Ed,Ee,Ef,Eg,Eh,Ei,Ej,Ek,El,Em,En,Eo,Ep,Er,Es,Et,Eu,Ev,Ew,Ey,Ez,Fa,Fb,Fc,Fd,Fe,Ff,Fg,Fh,Fi,Fj,Fk,Fl,Fm,Fo,Fp,Fq,Fr,Fs,Ft,Fu,Fv,Fw,Fx,Fy,Fz,Ga,Gb,Gc,Gd,Ge,Gf,Gg,Gh,Gi,Gj,Gk,Gl,Gm,Gn,Gp,Gq,Gr,Gs,Gt,Gu,Gv,Gw,Gx,Gy,Gz,Ha,Hb,Ab,Ac,Ad,Ae,Af,Ag,Ah,Ai,Aj,Ak,Am,Ao,Ap,Aq,Ar,At,Au,Av,Aw,Ax,Ay,Az,Bc,Bd,Be,Bf,Bg,Bh,Bi,Bj,Bl,Bm,Bn,Bo,Bp,Bq,Br,Bs,Bt,Bu,Bw,Bx,By,Bz,Ca,Cb,Cc,Cd,Ce,Cf,Ch,Ci,Cj,Ck,Cl,Cm,Cn,Co,Cp,Cq,Cs,Ct,Cu,Cv,Cw,Cx,Cy,Cz,Da,Db,Dd,De,Df,Dg,Dh,Di,Dj,Dk,Dl,Dm,Dp,Dq,Dr,Ds,Dt,Du],defers:= [] } y2:=by
 have hw6:IntKind.i64.wrap (1+L.next p2 6) =1+L.next p2 6:=by have:=L.next_ok p2 (n:=6) (by decide);rw [IntKind.wrap_i64];omega
 have hn6:=L.next_ok p2 (n:=6) (by decide)
 have hT2:isT 2=true:=rfl;subst hc;conv=>enter [2];whnf
 refine wp_region_ok (by kernel_rfl) (by kernel_rfl) (fun F a w'=>∃s:Nat→Value,a = { tmps:=#[.pointer (some ⟨b,0,none⟩),s1,s2,s3,s4,s5,s6,s7,s8,s9,Aa,Al,.pointer (some ⟨g,0,none⟩),Bk,Bv,Cg,Cr,Dc,Dn,Dv,.pointer (some ⟨g3,0,none⟩),Dw,.slice o2.h.ao o2.l.length o2.h.cap,(s 23),Dy,Dz,Ec,Ed,Ee,Ef,Eg,Eh,Ei,Ej,Ek,El,Em,En,Eo,Ep,Er,Es,Et,Eu,Ev,Ew,Ey,Ez,Fa,Fb,Fc,Fd,Fe,Ff,Fg,Fh,Fi,Fj,Fk,Fl,Fm,Fo,Fp,Fq,Fr,Fs,Ft,Fu,Fv,Fw,Fx,Fy,Fz,Ga,Gb,Gc,Gd,Ge,Gf,Gg,Gh,Gi,Gj,Gk,Gl,Gm,Gn,Gp,Gq,Gr,Gs,Gt,Gu,Gv,Gw,Gx,Gy,Gz,Ha,Hb,Ab,Ac,Ad,Ae,Af,Ag,Ah,Ai,Aj,Ak,Am,Ao,Ap,Aq,Ar,At,Au,Av,Aw,Ax,Ay,Az,Bc,Bd,Be,Bf,Bg,Bh,Bi,Bj,Bl,Bm,Bn,Bo,Bp,Bq,Br,Bs,Bt,Bu,Bw,Bx,By,Bz,Ca,Cb,Cc,Cd,Ce,Cf,Ch,Ci,Cj,Ck,Cl,Cm,Cn,Co,Cp,Cq,Cs,Ct,Cu,Cv,(s 164),(s 165),(s 166),(s 167),(s 168),(s 169),(s 170),(s 171),(s 172),(s 173),Dh,Di,Dj,Dk,Dl,Dm,Dp,Dq,Dr,Ds,Dt,Du],defers:= [] }∧Hid (JI y2 b p2 L qa qb o2 F s w')) ?h0 ?step ?done
 case h0=>exact⟨fun k=>if k=23 then Dx else if k=164 then Cw else if k=165 then Cx else if k=166 then Cy else if k=167 then Cz else if k=168 then Da else if k=169 then Db else if k=170 then Dd else if k=171 then De else if k=172 then Df else if k=173 then Dg else undef,rfl,ai (JI.start HBL.o.drew)⟩
 case done=>
  intro F a w' hF hinv;obtain⟨s,rfl,hI⟩:=hinv;exact hN (s 23) (s 164) (s 165) (s 166) (s 167) (s 168) (s 169) (s 170) (s 171) (s 172) (s 173) w' (ai (hI.o.dn (hF 11 (by decide))).2)
 case step=>
  intro i o F a w' ho hL he hinv;obtain⟨s,rfl,hI⟩:=hinv;have hlt:i<12:=(Array.getElem?_eq_some_iff.1 ho).1;have h11:=hI.o.f11 hlt hL;obtain⟨p',pend,lits,hB,hJ⟩:=hI.o.lv h11;have HB1:=ai hB;have HJ:=ai hJ;have hKP:=ai (show Kept b b y2 w' from(Kept.refl _ _ _).grown hB.gb)
  clear hB hJ;have hcase:i=0∨i=1∨i=2∨i=3∨i=4∨i=5∨i=6∨i=7∨i=8∨i=9∨i=10∨i=11:=by omega
  rcases hcase with rfl|rfl|rfl|rfl|rfl|rfl|rfl|rfl|rfl|rfl|rfl|rfl
  ·injection ho with ho
   subst ho;refine opwp_K (fun K2 hK2=> ?_)
   go_simp
   exact hK2 _ _ ⟨(fun k=>if k=164 then .pointer (some ⟨b,0,none⟩) else s k),rfl,ai (hI.o.pure (i:=0) (j:=164) (by simp [JP]) (by decide) hL)⟩
  ·injection ho with ho
   subst ho;have d0:F 0=true:=he ⟨0,.data⟩ (by simp) rfl
   have f0:=hI.o.pv (0,164,.pointer (some ⟨b,0,none⟩)) (by simp [JP]) d0
   dsimp only at f0
   have h5:F 5=false:=by cases h:F 5 with|false=>rfl|true=>rw [HJ.o.c5 h]at hL;cases hL
   have hp:p'=p2:=HJ.o.a1 hL;have hpe:pend = []:=HJ.o.a3 h5;subst hp hpe;refine opwp_K (fun K2 hK2=> ?_)
   go_simp
   go_at_call 10
   with_reducible refine(bl_next (n:=6) HB1.o ⟨by decide,by decide⟩ (by omega)).mono ?_
   rintro _ x5 ⟨rfl,hb5,hgr5⟩
   go_simp
   exact hK2 _ _ ⟨(fun k=>if k=165 then .int .i64 (L.next p' 6) else s k),(by first|rfl| (simp [f0];done)),ai ⟨jp_upd hI.o.pv (by simp [JP]),fun h=>(by rw [show upd F 1 11=F 11 from rfl,h11]at h;cases h),fun _=>⟨p'+1,[],lits,hb5,⟨fun _=>rfl,fun h=>(by cases h),fun _ _=>rfl,fun _=>rfl,fun h=>(by rw [show upd F 1 5=F 5 from rfl,h5]at h;cases h),HJ.o.a8,fun h=>(by have h6:=(HJ.o.a9 h).1;rw [h5]at h6;cases h6),HJ.o.a10⟩⟩⟩⟩
  ·injection ho with ho
   subst ho;have d1:F 1=true:=he ⟨1,.data⟩ (by simp) rfl
   have f1:=hI.o.pv (1,165,.int .i64 (L.next p2 6)) (by simp [JP]) d1
   dsimp only at f1
   refine opwp_K (fun K2 hK2=> ?_)
   go_simp
   exact hK2 _ _ ⟨(fun k=>if k=166 then .int .i64 (1+L.next p2 6) else s k),(by first|rfl| (simp [f1];done)),ai (hI.o.pure (i:=2) (j:=166) (by simp [JP]) (by decide) hL)⟩
  ·injection ho with ho
   subst ho;refine opwp_K (fun K2 hK2=> ?_)
   go_simp
   exact hK2 _ _ ⟨(fun k=>if k=167 then .pointer (some ⟨b,0,none⟩) else s k),rfl,ai (hI.o.pure (i:=3) (j:=167) (by simp [JP]) (by decide) hL)⟩
  ·injection ho with ho
   subst ho;refine opwp_K (fun K2 hK2=> ?_)
   go_simp
   exact hK2 _ _ ⟨(fun k=>if k=168 then .slice o2.h.ao o2.l.length o2.h.cap else s k),rfl,ai (hI.o.pure (i:=4) (j:=168) (by simp [JP]) (by decide) hL)⟩
  ·injection ho with ho
   subst ho;have d3:F 3=true:=he ⟨3,.data⟩ (by simp) rfl
   have f3:=hI.o.pv (3,167,.pointer (some ⟨b,0,none⟩)) (by simp [JP]) d3
   dsimp only at f3
   have d4:F 4=true:=he ⟨4,.data⟩ (by simp) rfl
   have f4:=hI.o.pv (4,168,.slice o2.h.ao o2.l.length o2.h.cap) (by simp [JP]) d4
   dsimp only at f4
   have d1:F 1=true:=he ⟨1,.chain⟩ (by simp) rfl
   have hp:p'=p2+1:=HJ.o.a2 d1 hL;have hpe:pend = []:=HJ.o.a3 hL;subst hp hpe;refine opwp_K (fun K2 hK2=> ?_)
   go_simp
   go_at_call 19
   with_reducible refine(bl_expr HE3 HB1.o HTSJ (by omega) hb3 hT2 (by omega)).mono ?_
   rintro _ x6 ⟨e,p4,rfl,hb6,hpp,hes,hgr6⟩
   go_simp
   exact hK2 _ _ ⟨(fun k=>if k=169 then .agg #[.int .i64 e.op,.int .i64 e.typ,.int .i64 e.num,.string e.text,.int .i64 e.col,.slice e.kh.ao e.kids.length e.kh.cap] else s k),(by first|rfl| (simp [f3,f4];done)),ai ⟨(jp_oth (i:=5) (s':=(fun k=>if k=169 then .agg #[.int .i64 e.op,.int .i64 e.typ,.int .i64 e.num,.string e.text,.int .i64 e.col,.slice e.kh.ao e.kids.length e.kh.cap] else s k)) hI.o.pv (jp_all (fun _=>⟨by simp,by simp,by simp,by simp,by simp,by simp,by simp⟩)) (jp_all (fun _=>⟨rfl,rfl,rfl,rfl,rfl,rfl,rfl⟩))),fun h=>(by rw [show upd F 5 11=F 11 from rfl,h11]at h;cases h),fun _=>⟨p4,[e],lits,hb6,⟨fun _=>d1,fun h=>(by rw [show upd F 5 1=F 1 from rfl,d1]at h;cases h),fun _ h=>(by cases h),fun h=>(by cases h),fun _=>⟨e,rfl,rfl,by omega,hes⟩,HJ.o.a8,fun h=>(by have h6:=(HJ.o.a9 h).1;rw [hL]at h6;cases h6),HJ.o.a10⟩⟩⟩⟩
  ·injection ho with ho
   subst ho;obtain⟨a0,a1,a2,a3,a4,a5,a6,a7,a8,a9,a10,a11,a12,a13,a14⟩:=box_cells15 (hKP.o.box HA.o hgb hgb);refine opwp_K (fun K2 hK2=> ?_)
   go_simp
   exact hK2 _ _ ⟨(fun k=>if k=170 then .agg #[.int .i64 qa.op,.string qa.table,.int .i64 qa.kind,.bool qa.all,.int .i64 qa.cond.op,.int .i64 qa.cond.typ,.int .i64 qa.cond.num,.string qa.cond.text,.int .i64 qa.cond.col,.slice qa.cond.kh.ao qa.cond.kids.length qa.cond.kh.cap,.slice qa.eh.ao qa.exprs.length qa.eh.cap,.slice qa.ah.ao qa.aggs.length qa.ah.cap,.slice qa.types.h.ao qa.types.l.length qa.types.h.cap,.slice qa.rh.ao qa.rows.length qa.rh.cap,.slice qa.qh.ao qa.kids.length qa.qh.cap] else s k),rfl,ai (hI.o.pure (i:=6) (j:=170) (by simp [JP]) (by decide) hL)⟩
  ·injection ho with ho
   subst ho;obtain⟨c0,c1,c2,c3,c4,c5,c6,c7,c8,c9,c10,c11,c12,c13,c14⟩:=box_cells15 (hKP.o.box HB.o hgb3 hgb3);refine opwp_K (fun K2 hK2=> ?_)
   go_simp
   exact hK2 _ _ ⟨(fun k=>if k=171 then .agg #[.int .i64 qb.op,.string qb.table,.int .i64 qb.kind,.bool qb.all,.int .i64 qb.cond.op,.int .i64 qb.cond.typ,.int .i64 qb.cond.num,.string qb.cond.text,.int .i64 qb.cond.col,.slice qb.cond.kh.ao qb.cond.kids.length qb.cond.kh.cap,.slice qb.eh.ao qb.exprs.length qb.eh.cap,.slice qb.ah.ao qb.aggs.length qb.ah.cap,.slice qb.types.h.ao qb.types.l.length qb.types.h.cap,.slice qb.rh.ao qb.rows.length qb.rh.cap,.slice qb.qh.ao qb.kids.length qb.qh.cap] else s k),rfl,ai (hI.o.pure (i:=7) (j:=171) (by simp [JP]) (by decide) hL)⟩
  ·injection ho with ho
   subst ho;have d6:F 6=true:=he ⟨6,.data⟩ (by simp) rfl
   have f6:=hI.o.pv (6,170,.agg #[.int .i64 qa.op,.string qa.table,.int .i64 qa.kind,.bool qa.all,.int .i64 qa.cond.op,.int .i64 qa.cond.typ,.int .i64 qa.cond.num,.string qa.cond.text,.int .i64 qa.cond.col,.slice qa.cond.kh.ao qa.cond.kids.length qa.cond.kh.cap,.slice qa.eh.ao qa.exprs.length qa.eh.cap,.slice qa.ah.ao qa.aggs.length qa.ah.cap,.slice qa.types.h.ao qa.types.l.length qa.types.h.cap,.slice qa.rh.ao qa.rows.length qa.rh.cap,.slice qa.qh.ao qa.kids.length qa.qh.cap]) (by simp [JP]) d6
   dsimp only at f6
   have d7:F 7=true:=he ⟨7,.data⟩ (by simp) rfl
   have f7:=hI.o.pv (7,171,.agg #[.int .i64 qb.op,.string qb.table,.int .i64 qb.kind,.bool qb.all,.int .i64 qb.cond.op,.int .i64 qb.cond.typ,.int .i64 qb.cond.num,.string qb.cond.text,.int .i64 qb.cond.col,.slice qb.cond.kh.ao qb.cond.kids.length qb.cond.kh.cap,.slice qb.eh.ao qb.exprs.length qb.eh.cap,.slice qb.ah.ao qb.aggs.length qb.ah.cap,.slice qb.types.h.ao qb.types.l.length qb.types.h.cap,.slice qb.rh.ao qb.rows.length qb.rh.cap,.slice qb.qh.ao qb.kids.length qb.qh.cap]) (by simp [JP]) d7
   dsimp only at f7
   refine opwp_K (fun K2 hK2=> ?_)
   go_simp
   exact hK2 _ _ ⟨(fun k=>if k=172 then .slice (some ⟨w'.heap.size,0,none⟩) 2 2 else s k),(by first|rfl| (simp [f6,f7];done)),ai ⟨(jp_oth (i:=8) (s':=(fun k=>if k=172 then .slice (some ⟨w'.heap.size,0,none⟩) 2 2 else s k)) hI.o.pv (jp_all (fun _=>⟨by simp,by simp,by simp,by simp,by simp,by simp,by simp⟩)) (jp_all (fun _=>⟨rfl,rfl,rfl,rfl,rfl,rfl,rfl⟩))),fun h=>(by rw [show upd F 8 11=F 11 from rfl,h11]at h;cases h),fun _=>⟨p',pend,_,HB1.o.lit #[.int .i64 qa.op,.string qa.table,.int .i64 qa.kind,.bool qa.all,.int .i64 qa.cond.op,.int .i64 qa.cond.typ,.int .i64 qa.cond.num,.string qa.cond.text,.int .i64 qa.cond.col,.slice qa.cond.kh.ao qa.cond.kids.length qa.cond.kh.cap,.slice qa.eh.ao qa.exprs.length qa.eh.cap,.slice qa.ah.ao qa.aggs.length qa.ah.cap,.slice qa.types.h.ao qa.types.l.length qa.types.h.cap,.slice qa.rh.ao qa.rows.length qa.rh.cap,.slice qa.qh.ao qa.kids.length qa.qh.cap,.int .i64 qb.op,.string qb.table,.int .i64 qb.kind,.bool qb.all,.int .i64 qb.cond.op,.int .i64 qb.cond.typ,.int .i64 qb.cond.num,.string qb.cond.text,.int .i64 qb.cond.col,.slice qb.cond.kh.ao qb.cond.kids.length qb.cond.kh.cap,.slice qb.eh.ao qb.exprs.length qb.eh.cap,.slice qb.ah.ao qb.aggs.length qb.ah.cap,.slice qb.types.h.ao qb.types.l.length qb.types.h.cap,.slice qb.rh.ao qb.rows.length qb.rh.cap,.slice qb.qh.ao qb.kids.length qb.qh.cap] 57,⟨HJ.o.c5,HJ.o.a1,HJ.o.a2,HJ.o.a3,HJ.o.a5,fun _=>⟨_,rfl,List.mem_cons_self⟩,fun h=>(by obtain⟨h1,e,gl,h2,h3,h4⟩:=HJ.o.a9 h;exact⟨h1,e,gl,h2,List.mem_cons_of_mem _ h3,h4⟩),fun h=>(by obtain⟨g',h1,h2⟩:=HJ.o.a10 h;exact⟨g',h1,List.mem_cons_of_mem _ h2⟩)⟩⟩⟩⟩
  ·injection ho with ho
   subst ho;have d2:F 2=true:=he ⟨2,.data⟩ (by simp) rfl
   have f2:=hI.o.pv (2,166,.int .i64 (1+L.next p2 6)) (by simp [JP]) d2
   dsimp only at f2
   have d5:F 5=true:=he ⟨5,.data⟩ (by simp) rfl
   obtain⟨e,he1,f5,he3,he4⟩:=HJ.o.a5 d5;have d8:F 8=true:=he ⟨8,.data⟩ (by simp) rfl
   obtain⟨gl,f8,hg2⟩:=HJ.o.a8 d8;have HGL:=ai hg2;have HPE:=ai he1;clear hg2 he1;refine opwp_K (fun K2 hK2=> ?_)
   go_simp
   exact hK2 _ _ ⟨(fun k=>if k=173 then .agg #[.int .i64 5,.string ⟨#[]⟩,.int .i64 (1+L.next p2 6),.bool false,.int .i64 e.op,.int .i64 e.typ,.int .i64 e.num,.string e.text,.int .i64 e.col,.slice e.kh.ao e.kids.length e.kh.cap,.slice none 0 0,.slice none 0 0,.slice none 0 0,.slice none 0 0,.slice (some ⟨gl,0,none⟩) 2 2] else s k),(by first|rfl| (simp [f2,f5,f8];done)),ai ⟨(jp_oth (i:=9) (s':=(fun k=>if k=173 then .agg #[.int .i64 5,.string ⟨#[]⟩,.int .i64 (1+L.next p2 6),.bool false,.int .i64 e.op,.int .i64 e.typ,.int .i64 e.num,.string e.text,.int .i64 e.col,.slice e.kh.ao e.kids.length e.kh.cap,.slice none 0 0,.slice none 0 0,.slice none 0 0,.slice none 0 0,.slice (some ⟨gl,0,none⟩) 2 2] else s k)) hI.o.pv (jp_all (fun _=>⟨by simp,by simp,by simp,by simp,by simp,by simp,by simp⟩)) (jp_all (fun _=>⟨rfl,rfl,rfl,rfl,rfl,rfl,rfl⟩))),fun h=>(by rw [show upd F 9 11=F 11 from rfl,h11]at h;cases h),fun _=>⟨p',pend,lits,HB1.o,⟨HJ.o.c5,HJ.o.a1,HJ.o.a2,HJ.o.a3,HJ.o.a5,HJ.o.a8,fun _=>⟨d5,e,gl,HPE.o,HGL.o,rfl⟩,HJ.o.a10⟩⟩⟩⟩
  ·injection ho with ho
   subst ho;refine opwp_K (fun K2 hK2=> ?_)
   go_simp
   exact hK2 _ _ ⟨(fun k=>if k=23 then .pointer (some ⟨w'.heap.size,0,none⟩) else s k),rfl,ai ⟨(jp_oth (i:=10) (s':=(fun k=>if k=23 then .pointer (some ⟨w'.heap.size,0,none⟩) else s k)) hI.o.pv (jp_all (fun _=>⟨by simp,by simp,by simp,by simp,by simp,by simp,by simp⟩)) (jp_all (fun _=>⟨rfl,rfl,rfl,rfl,rfl,rfl,rfl⟩))),fun h=>(by rw [show upd F 10 11=F 11 from rfl,h11]at h;cases h),fun _=>⟨p',pend,_,HB1.o.lit #[.int .i64 0,.string ⟨#[]⟩,.int .i64 0,.bool false,.int .i64 0,.int .i64 0,.int .i64 0,.string ⟨#[]⟩,.int .i64 0,.slice none 0 0,.slice none 0 0,.slice none 0 0,.slice none 0 0,.slice none 0 0,.slice none 0 0] 57,⟨HJ.o.c5,HJ.o.a1,HJ.o.a2,HJ.o.a3,HJ.o.a5,fun h=>(by obtain⟨g',h1,h2⟩:=HJ.o.a8 h;exact⟨g',h1,List.mem_cons_of_mem _ h2⟩),fun h=>(by obtain⟨h1,e,gl,h2,h3,h4⟩:=HJ.o.a9 h;exact⟨h1,e,gl,h2,List.mem_cons_of_mem _ h3,h4⟩),fun _=>⟨_,rfl,List.mem_cons_self⟩⟩⟩⟩⟩
  ·injection ho with ho
   subst ho;have dd: ∀j,j<11→F j=true:=by
    intro j hj;have hjc:j=0∨j=1∨j=2∨j=3∨j=4∨j=5∨j=6∨j=7∨j=8∨j=9∨j=10:=by omega
    rcases hjc with rfl|rfl|rfl|rfl|rfl|rfl|rfl|rfl|rfl|rfl|rfl
    ·exact he ⟨0,.phase⟩ (by simp) rfl
    ·exact he ⟨1,.phase⟩ (by simp) rfl
    ·exact he ⟨2,.phase⟩ (by simp) rfl
    ·exact he ⟨3,.phase⟩ (by simp) rfl
    ·exact he ⟨4,.phase⟩ (by simp) rfl
    ·exact he ⟨5,.phase⟩ (by simp) rfl
    ·exact he ⟨6,.phase⟩ (by simp) rfl
    ·exact he ⟨7,.phase⟩ (by simp) rfl
    ·exact he ⟨8,.phase⟩ (by simp) rfl
    ·exact he ⟨9,.phase⟩ (by simp) rfl
    ·exact he ⟨10,.phase⟩ (by simp) rfl
   obtain⟨ee,he1,-,he3,he4⟩:=HJ.o.a5 (dd 5 (by decide))
   obtain⟨-,e,gl,hq1,hq2,fv⟩:=HJ.o.a9 (dd 9 (by decide))
   obtain⟨gq,fq,hq3⟩:=HJ.o.a10 (dd 10 (by decide))
   have hee:ee=e:=by rw [hq1]at he1;injection he1 with h1;exact h1.symm
   subst hee hq1;have HBQ:=ai (show Box w' gq #[.int .i64 0,.string ⟨#[]⟩,.int .i64 0,.bool false,.int .i64 0,.int .i64 0,.int .i64 0,.string ⟨#[]⟩,.int .i64 0,.slice none 0 0,.slice none 0 0,.slice none 0 0,.slice none 0 0,.slice none 0 0,.slice none 0 0] 57 from(HB1.o.bl _ hq3).1)
   obtain⟨e0,e1,e2,e3,e4,e5,e6,e7,e8,e9,e10,e11,e12,e13,e14⟩:=box_cells15 HBQ.o;obtain⟨f0,f1,f2,f3,f4,f5,f6,f7,f8,f9,f10,f11,f12,f13,f14⟩:=box_fr15 HBQ.o;have HJR:=ai (jr_set (k:=1+L.next p2 6) (e:=ee) HB1.o (by omega) (by omega) he4 hq2 hq3 rfl)
   have HDD:=ai dd;clear dd hq2 hq3 he3 he4;refine opwp_K (fun K2 hK2=> ?_)
   go_simp
   exact hK2 _ _ ⟨s,(by first|rfl| (simp [fq,fv];done)),ai ⟨(jp_oth (i:=11) (s':=s) hI.o.pv (jp_all (fun _=>⟨by simp,by simp,by simp,by simp,by simp,by simp,by simp⟩)) (jp_all (fun _=>⟨rfl,rfl,rfl,rfl,rfl,rfl,rfl⟩))),fun _=>⟨fun j hj=>(if h:j=11 then (by rw [h];rfl) else (by unfold upd;rw [if_neg h];exact HDD.o j (by omega))),(by rw [fq];exact HJR.o)⟩,fun h=>(by cases h)⟩⟩
end Go.Proofs.YtogalchclmmfgaaDoor

/- The Go structs as trees that keep their slices' headers, and what it means that they lie in a world. No program in sight. -/
import Derived.WalkKit
import Derived.WalkSpells
import Derived.Deep.Draws
set_option maxRecDepth 100000
set_option maxHeartbeats 16000000
namespace Go.Proofs.YtiijaaohphokcaaGreatDoor
open Go.RowKit
structure Hd where
 ao:Option Addr
 cap:Nat
def Hd.b (h:Hd) :Nat:=(h.ao.getD ⟨0,0,none⟩).block
def Hd.o (h:Hd) :Nat:=(h.ao.getD ⟨0,0,none⟩).off
def nilHd:Hd:=⟨none,0⟩
def Row {α:Type} (w:World) (size:Nat) (cells:α→List Value) (h:Hd) (xs:List α) :Prop:=
 xs.length≤h.cap∧h.cap≤maxLen∧(0<xs.length→h.ao=some ⟨h.b,h.o,none⟩∧h.b<w.heap.size)∧
  ∀(i:Nat) (hi:i<xs.length) (j:Nat) (v:Value),(cells (xs[i]'hi))[j]? = some v→w.cell? ⟨h.b,h.o+i*size+j,none⟩ =some v
theorem Row.mono {α:Type} {w w':World} {size:Nat} {cells:α→List Value} {h:Hd} {xs:List α} (hr:Row w size cells h xs) (hb:Below w.heap.size w w') :Row w' size cells h xs:=by
 obtain⟨h1,h2,h3,h4⟩:=hr;refine⟨h1,h2,fun hp=>⟨(h3 hp).1,Nat.lt_of_lt_of_le (h3 hp).2 hb.size⟩,fun i hi j v hv=> ?_⟩
 rw [hb.cell (p:=⟨h.b,_,none⟩) (h3 (by omega)).2]
 exact h4 i hi j v hv
theorem Row.nil {α:Type} (w:World) (size:Nat) (cells:α→List Value) :Row w size cells nilHd []:=
 ⟨Nat.le_refl _,Nat.zero_le _,fun h=>absurd h (by simp),fun i hi=>absurd hi (by simp)⟩
theorem Row.len {α:Type} {w:World} {size:Nat} {cells:α→List Value} {h:Hd} {xs:List α} (hr:Row w size cells h xs) :xs.length≤9223372036854775807:=by
 have h1:=hr.1;have h2:=hr.2.1
 unfold maxLen at h2
 omega
theorem Row.blk {α:Type} {w:World} {size:Nat} {cells:α→List Value} {h:Hd} {xs:List α} (hr:Row w size cells h xs) {i:Nat} (hi:i<xs.length) :h.b<w.heap.size:=(hr.2.2.1 (by omega)).2
theorem Row.ix {α:Type} {w:World} {size:Nat} {cells:α→List Value} {h:Hd} {xs:List α} (hr:Row w size cells h xs) {i:Nat} (hi:i<xs.length) {P:Program} {t e:TypeId}
  (ht:P.underlying t=some (.slice e)) (hs: (P.info? e).map (·.size) =some size) :
  ∀W,(Instr.indexAt t (.slice h.ao xs.length h.cap) (.int .i64 (i:Int))).run P W = .ok (.pointer (some ⟨h.b,h.o+i*size,none⟩)) W:=by
 intro W;obtain⟨j,hj,hsz⟩:=Option.map_eq_some_iff.1 hs;have he:P.elem t=e:=by simp [Program.elem,ht]
 rw [(hr.2.2.1 (by omega)).1,run_indexAt_slice _ _ _ _ _ _ _ (by rw [he];exact ht),he,if_pos ⟨by omega,by omega⟩]
 simp [sizeOf,typeInfo,hj,hsz,Addr.add_lit]
theorem ai {p:Prop} (h:p) :Hid p:=h
theorem _root_.Go.RowKit.Hid.o {p:Prop}(h:Hid p):p:=h
def int64 (n:Int) :Prop:=-9223372036854775808≤n∧n≤9223372036854775807
structure IL where
 h:Hd
 l:List Int
abbrev icells (n:Int) :List Value:= [.int .i64 n]
def IL.In (w:World) (x:IL) :Prop:=Row w 1 icells x.h x.l∧∀n∈x.l,int64 n
abbrev IL.cells (x:IL) :List Value:= [.slice x.h.ao x.l.length x.h.cap]
structure V where
 kind:Int
 num:Int
 text:ByteArray
abbrev V.cells (v:V) :List Value:= [.int .i64 v.kind,.int .i64 v.num,.string v.text]
def V.wf (v:V) :Prop:=int64 v.kind∧int64 v.num∧v.text.size≤maxLen
structure VL where
 h:Hd
 l:List V
abbrev VL.cells (x:VL) :List Value:= [.slice x.h.ao x.l.length x.h.cap]
def VL.In (w:World) (x:VL) :Prop:=Row w 3 V.cells x.h x.l∧∀v∈x.l,v.wf
structure Col where
 name:ByteArray
 typ:Int
 nul:Bool
abbrev Col.cells (c:Col) :List Value:= [.string c.name,.int .i64 c.typ,.bool c.nul]
def Col.wf (c:Col) :Prop:=c.name.size≤maxLen∧int64 c.typ
structure Frn where
 cols:IL
 tab:ByteArray
abbrev Frn.cells (f:Frn) :List Value:= [.slice f.cols.h.ao f.cols.l.length f.cols.h.cap,.string f.tab]
def Frn.In (w:World) (f:Frn) :Prop:=f.cols.In w∧f.tab.size≤maxLen
structure Ex where
 op:Int
 typ:Int
 num:Int
 text:ByteArray
 col:Int
 kh:Hd
 kids:List Ex
abbrev Ex.cells (e:Ex) :List Value:= [.int .i64 e.op,.int .i64 e.typ,.int .i64 e.num,.string e.text,.int .i64 e.col,.slice e.kh.ao e.kids.length e.kh.cap]
def Ex.wf (e:Ex) :Prop:=int64 e.op∧int64 e.typ∧int64 e.num∧e.text.size≤maxLen∧int64 e.col
inductive Ex.In (w:World) :Ex→Prop where
 | mk (e:Ex) (hw:e.wf) (hr:Row w 6 Ex.cells e.kh e.kids) (hk: ∀k∈e.kids,Ex.In w k) :Ex.In w e
theorem Ex.In.wf {w:World} {e:Ex} (h:e.In w) :e.wf:=by cases h;assumption
theorem Ex.In.row {w:World} {e:Ex} (h:e.In w) :Row w 6 Ex.cells e.kh e.kids:=by cases h;assumption
theorem Ex.In.kid {w:World} {e:Ex} (h:e.In w) : ∀k∈e.kids,k.In w:=by cases h;assumption
theorem Ex.In.mono {w w':World} {e:Ex} (h:e.In w) (hb:Below w.heap.size w w') :e.In w':=by
 induction h with
 | mk e hw hr hk ih=>exact⟨e,hw,hr.mono hb,ih⟩
structure Tab where
 name:ByteArray
 ch:Hd
 cols:List Col
 prim:IL
 uh:Hd
 uniqs:List IL
 fh:Hd
 fors:List Frn
 kh:Hd
 checks:List Ex
abbrev Tab.cells (t:Tab) :List Value:= [.string t.name,.slice t.ch.ao t.cols.length t.ch.cap,.slice t.prim.h.ao t.prim.l.length t.prim.h.cap,.slice t.uh.ao t.uniqs.length t.uh.cap,.slice t.fh.ao t.fors.length t.fh.cap,.slice t.kh.ao t.checks.length t.kh.cap]
structure Tab.In (w:World) (t:Tab) :Prop where
 nm:t.name.size≤maxLen
 rc:Row w 3 Col.cells t.ch t.cols
 cs: ∀c∈t.cols,c.wf
 rp:t.prim.In w
 ru:Row w 1 IL.cells t.uh t.uniqs
 us: ∀u∈t.uniqs,u.In w
 rf:Row w 2 Frn.cells t.fh t.fors
 fs: ∀f∈t.fors,f.In w
 rk:Row w 6 Ex.cells t.kh t.checks
 ks: ∀k∈t.checks,k.In w
structure Sch where
 th:Hd
 tabs:List Tab
abbrev Sch.cells (s:Sch) :List Value:= [.slice s.th.ao s.tabs.length s.th.cap]
structure Sch.In (w:World) (s:Sch) :Prop where
 rt:Row w 6 Tab.cells s.th s.tabs
 ts: ∀t∈s.tabs,t.In w
structure Agg where
 fn:Int
 arg:Ex
abbrev Agg.cells (a:Agg) :List Value:= [.int .i64 a.fn,.int .i64 a.arg.op,.int .i64 a.arg.typ,.int .i64 a.arg.num,.string a.arg.text,.int .i64 a.arg.col,.slice a.arg.kh.ao a.arg.kids.length a.arg.kh.cap]
structure Qu where
 op:Int
 table:ByteArray
 kind:Int
 all:Bool
 cond:Ex
 eh:Hd
 exprs:List Ex
 ah:Hd
 aggs:List Agg
 types:IL
 rh:Hd
 rows:List VL
 qh:Hd
 kids:List Qu
abbrev Qu.cells (q:Qu) :List Value:= [.int .i64 q.op,.string q.table,.int .i64 q.kind,.bool q.all,
 .int .i64 q.cond.op,.int .i64 q.cond.typ,.int .i64 q.cond.num,.string q.cond.text,.int .i64 q.cond.col,.slice q.cond.kh.ao q.cond.kids.length q.cond.kh.cap,
 .slice q.eh.ao q.exprs.length q.eh.cap,.slice q.ah.ao q.aggs.length q.ah.cap,.slice q.types.h.ao q.types.l.length q.types.h.cap,.slice q.rh.ao q.rows.length q.rh.cap,.slice q.qh.ao q.kids.length q.qh.cap]
structure Qu.flat (w:World) (q:Qu) :Prop where
 op:int64 q.op
 tb:q.table.size≤maxLen
 kd:int64 q.kind
 cd:q.cond.In w
 re:Row w 6 Ex.cells q.eh q.exprs
 es: ∀e∈q.exprs,e.In w
 ra:Row w 7 Agg.cells q.ah q.aggs
 ags: ∀a∈q.aggs,int64 a.fn∧a.arg.In w
 ty:q.types.In w
 rr:Row w 1 VL.cells q.rh q.rows
 rs: ∀r∈q.rows,r.In w
inductive Qu.In (w:World) :Qu→Prop where
 | mk (q:Qu) (hf:q.flat w) (hr:Row w 15 Qu.cells q.qh q.kids) (hk: ∀k∈q.kids,Qu.In w k) :Qu.In w q
theorem Qu.In.flat {w:World} {e:Qu} (h:e.In w) :e.flat w:=by cases h;assumption
theorem Qu.In.row {w:World} {e:Qu} (h:e.In w) :Row w 15 Qu.cells e.qh e.kids:=by cases h;assumption
theorem Qu.In.kid {w:World} {e:Qu} (h:e.In w) : ∀k∈e.kids,k.In w:=by cases h;assumption
section
variable {w w':World}
theorem IL.In.mono {x:IL} (h:x.In w) (hb:Below w.heap.size w w') :x.In w':=⟨h.1.mono hb,h.2⟩
theorem VL.In.mono {x:VL} (h:x.In w) (hb:Below w.heap.size w w') :x.In w':=⟨h.1.mono hb,h.2⟩
theorem Frn.In.mono {x:Frn} (h:x.In w) (hb:Below w.heap.size w w') :x.In w':=⟨h.1.mono hb,h.2⟩
theorem Tab.In.mono {t:Tab} (h:t.In w) (hb:Below w.heap.size w w') :t.In w':=
 ⟨h.nm,h.rc.mono hb,h.cs,h.rp.mono hb,h.ru.mono hb,fun u hu=>(h.us u hu).mono hb,h.rf.mono hb,fun u hu=>(h.fs u hu).mono hb,h.rk.mono hb,fun u hu=>(h.ks u hu).mono hb⟩
theorem Sch.In.mono {t:Sch} (h:t.In w) (hb:Below w.heap.size w w') :t.In w':=⟨h.rt.mono hb,fun u hu=>(h.ts u hu).mono hb⟩
theorem Qu.flat.mono {q:Qu} (h:q.flat w) (hb:Below w.heap.size w w') :q.flat w':=
 ⟨h.op,h.tb,h.kd,h.cd.mono hb,h.re.mono hb,fun u hu=>(h.es u hu).mono hb,h.ra.mono hb,fun u hu=>⟨(h.ags u hu).1,(h.ags u hu).2.mono hb⟩,h.ty.mono hb,h.rr.mono hb,fun u hu=>(h.rs u hu).mono hb⟩
theorem Qu.In.mono {q:Qu} (h:q.In w) (hb:Below w.heap.size w w') :q.In w':=by
 induction h with
 | mk e hw hr hk ih=>exact⟨e,hw.mono hb,hr.mono hb,ih⟩
end
section
variable {w:World} {h:Hd} {i:Nat}
theorem int_at {xs:List Int} (hr:Row w 1 icells h xs) (hi:i<xs.length) :w.cell? ⟨h.b,h.o+i,none⟩ =some (.int .i64 xs[i]):=by
 have:=hr.2.2.2 i hi 0 _ rfl
 simpa using this
theorem col_at {xs:List Col} (hr:Row w 3 Col.cells h xs) (hi:i<xs.length) :w.cell? ⟨h.b,h.o+i*3,none⟩ =some (.string xs[i].name)∧w.cell? ⟨h.b,h.o+i*3+1,none⟩ =some (.int .i64 xs[i].typ)∧w.cell? ⟨h.b,h.o+i*3+2,none⟩ =some (.bool xs[i].nul):=
 ⟨hr.2.2.2 i hi 0 _ rfl,hr.2.2.2 i hi 1 _ rfl,hr.2.2.2 i hi 2 _ rfl⟩
theorem val_at {xs:List V} (hr:Row w 3 V.cells h xs) (hi:i<xs.length) :w.cell? ⟨h.b,h.o+i*3,none⟩ =some (.int .i64 xs[i].kind)∧w.cell? ⟨h.b,h.o+i*3+1,none⟩ =some (.int .i64 xs[i].num)∧w.cell? ⟨h.b,h.o+i*3+2,none⟩ =some (.string xs[i].text):=
 ⟨hr.2.2.2 i hi 0 _ rfl,hr.2.2.2 i hi 1 _ rfl,hr.2.2.2 i hi 2 _ rfl⟩
theorem vl_at {xs:List VL} (hr:Row w 1 VL.cells h xs) (hi:i<xs.length) :w.cell? ⟨h.b,h.o+i,none⟩ =some (.slice xs[i].h.ao xs[i].l.length xs[i].h.cap):=by
 have:=hr.2.2.2 i hi 0 _ rfl
 simpa using this
theorem frn_at {xs:List Frn} (hr:Row w 2 Frn.cells h xs) (hi:i<xs.length) :w.cell? ⟨h.b,h.o+i*2,none⟩ =some (.slice xs[i].cols.h.ao xs[i].cols.l.length xs[i].cols.h.cap)∧w.cell? ⟨h.b,h.o+i*2+1,none⟩ =some (.string xs[i].tab):=
 ⟨hr.2.2.2 i hi 0 _ rfl,hr.2.2.2 i hi 1 _ rfl⟩
theorem tab_at {xs:List Tab} (hr:Row w 6 Tab.cells h xs) (hi:i<xs.length) :w.cell? ⟨h.b,h.o+i*6,none⟩ =some (.string xs[i].name)∧w.cell? ⟨h.b,h.o+i*6+1,none⟩ =some (.slice xs[i].ch.ao xs[i].cols.length xs[i].ch.cap)∧
  w.cell? ⟨h.b,h.o+i*6+2,none⟩ =some (.slice xs[i].prim.h.ao xs[i].prim.l.length xs[i].prim.h.cap)∧w.cell? ⟨h.b,h.o+i*6+3,none⟩ =some (.slice xs[i].uh.ao xs[i].uniqs.length xs[i].uh.cap)∧
  w.cell? ⟨h.b,h.o+i*6+4,none⟩ =some (.slice xs[i].fh.ao xs[i].fors.length xs[i].fh.cap)∧w.cell? ⟨h.b,h.o+i*6+5,none⟩ =some (.slice xs[i].kh.ao xs[i].checks.length xs[i].kh.cap):=
 ⟨hr.2.2.2 i hi 0 _ rfl,hr.2.2.2 i hi 1 _ rfl,hr.2.2.2 i hi 2 _ rfl,hr.2.2.2 i hi 3 _ rfl,hr.2.2.2 i hi 4 _ rfl,hr.2.2.2 i hi 5 _ rfl⟩
end
theorem ret1 {a a':Int} (h:a=a') :Ending.returned (.int .i64 a) = .returned (.int .i64 a'):=by rw [h]
theorem ret2 {a a':Int} {b b':Bool} (h:a=a'∧b=b') :Ending.returned (.tuple #[.int .i64 a,.bool b]) = .returned (.tuple #[.int .i64 a',.bool b']):=by rw [h.1,h.2]
theorem retb {a a':Bool} (h:a=a') :Ending.returned (.bool a) = .returned (.bool a'):=by rw [h]
def BoolPost (Q:Prop) (e:Ending) :Prop:=∃b,e = .returned (.bool b)∧(b=true→Q)
theorem bel1 {w w1:World} {x:Obj} (h:Below (w.alloc x).heap.size (w.alloc x) w1) :Below w.heap.size w w1:=
 ((Below.refl _ _).alloc (Nat.le_refl _) _).trans (h.mono (by simp))
theorem bel2 {w w1:World} {x y:Obj} (h:Below ((w.alloc x).alloc y).heap.size ((w.alloc x).alloc y) w1) :Below w.heap.size w w1:=bel1 (bel1 h)
theorem bel3 {w w1:World} {x y z:Obj} (h:Below (((w.alloc x).alloc y).alloc z).heap.size (((w.alloc x).alloc y).alloc z) w1) :Below w.heap.size w w1:=bel1 (bel2 h)
theorem belA {w:World} (x:Obj) :Below w.heap.size w (w.alloc x):=(Below.refl _ _).alloc (Nat.le_refl _) _
theorem belAA {w:World} (x y:Obj) :Below w.heap.size w ((w.alloc x).alloc y):=(belA x).alloc (by simp) _
theorem belD {w:World} (x:Obj) :Below w.heap.size w (w.alloc x).drew:=(belA x).drew
theorem below_drewN {B:Nat} {a w:World} (h:Below B a w) (n:Nat) :Below B a (w.drewN n):=⟨h.os,h.tape,h.output,h.size,h.block⟩
theorem bT {a b c:World} (h:Below a.heap.size a b) (k:Below b.heap.size b c) :Below a.heap.size a c:=h.trans (k.mono h.size)
theorem bel_drew {a b:World} (h:Below a.drew.heap.size a.drew b) :Below a.heap.size a b:=⟨h.os,h.tape,h.output,h.size,h.block⟩
theorem bcell {W w1:World} (hb:Below W.heap.size W w1) : (∀b o,b<W.heap.size→w1.cell? ⟨b,o,none⟩ =W.cell? ⟨b,o,none⟩)∧(∀b o,b<W.heap.size→w1.frozen? ⟨b,o,none⟩ =W.frozen? ⟨b,o,none⟩):=
 ⟨fun b o h=>hb.cell (p:=⟨b,o,none⟩) h,fun b o h=>hb.frozen (p:=⟨b,o,none⟩) h⟩
theorem flatMap_at {α:Type} {size:Nat} {cells:α→List Value} (hs: ∀x,(cells x).length=size) : ∀(xs:List α) (i j:Nat) (hi:i<xs.length),j<size→(xs.flatMap cells)[i*size+j]? = (cells xs[i])[j]?
 | [],i,_,hi,_=>absurd hi (by simp)
 | x :: xs,0,j,_,hj=>by
  simp only [List.flatMap_cons,Nat.zero_mul,Nat.zero_add,List.getElem_cons_zero];rw [List.getElem?_append_left (by rw [hs];exact hj)]
 | x :: xs,i+1,j,hi,hj=>by
  simp only [List.flatMap_cons,List.getElem_cons_succ];rw [List.getElem?_append_right (by rw [hs,Nat.add_mul];omega),hs]
  rw [show(i+1) *size+j - size=i*size+j by rw [Nat.add_mul];omega]
  exact flatMap_at hs xs i j (by simpa using hi) hj
theorem flatMap_len {α:Type} {size:Nat} {cells:α→List Value} (hs: ∀x,(cells x).length=size) (xs:List α) : (xs.flatMap cells).length=xs.length*size:=by
 induction xs with
 | nil=>simp
 | cons x xs ih=>simp only [List.flatMap_cons,List.length_append,hs,ih,List.length_cons,Nat.add_mul];omega
theorem own_row {α:Type} {w:World} {base:Nat} {e:TypeId} {size:Nat} {v:Value} {n:Nat} {cells:α→List Value} {xs:List α} (hs: ∀x,(cells x).length=size) (hpos:0<size)
  (h:w.ownsRow base e size v n (xs.flatMap cells)) : ∃hd:Hd,v = .slice hd.ao xs.length hd.cap∧Row w size cells hd xs:=by
 obtain⟨hlen,h⟩:=h;have hn:n=xs.length:=by
  rw [flatMap_len hs]at hlen;exact(Nat.eq_of_mul_eq_mul_right hpos hlen).symm
 subst hn;rcases h with⟨rfl,h0⟩ | ⟨g,cap,cur,rfl,hb,hg,hnc,hcm,hcs,htake⟩
 ·have:xs = []:=List.eq_nil_of_length_eq_zero h0
  subst this;exact⟨nilHd,rfl,Row.nil _ _ _⟩
 ·refine⟨⟨some ⟨g,0,none⟩,cap⟩,rfl,hnc,hcm,fun _=>⟨rfl,(Array.getElem?_eq_some_iff.1 hg).1⟩,fun i hi j v hv=> ?_⟩
  have hj:j<size:=by
   have:=(List.getElem?_eq_some_iff.1 hv).1
   rwa [hs]at this
  show w.cell? ⟨g,0+i*size+j,none⟩ =some v
  rw [cell_of_row w g _ cur e (0,0) hg,Nat.zero_add];rw [←flatMap_at hs xs i j hi hj,←htake]at hv;have hv':=(List.getElem?_eq_some_iff.1 hv).1;rw [List.getElem?_take_of_lt (by rw [List.length_take]at hv';omega)]at hv
  simpa using hv
theorem new_cells {w:World} {l:List Value} {t:TypeId} : ∀j u,l[j]? = some u→(w.alloc (.cells l.toArray t)).cell? ((⟨w.heap.size,0,none⟩ :Addr).add j) =some u:=by
 intro j u hu;rw [Addr.add_lit,Nat.zero_add,cell_of_row (w.alloc (.cells l.toArray t)) w.heap.size j l.toArray t (0,0) (heap_alloc_new w _)]
 simpa using hu
theorem one_int {n:Int} {k:IntKind} : ∀u∈ [Value.int k n],u.oneCell'=true:=by intro u hu;simp at hu;subst hu;rfl
theorem grown1 {B:Nat} {a w w':World} {x:Obj} {row:Option Nat} (h:Below B a w) (hB:B≤w.heap.size) (hg: (w.alloc x).grownBy w' row) (hr: ∀k,row=some k→B≤k) :Below B a w':=
 (h.trans ((belA _).mono hB)).grown hg (by simp;omega) hr
theorem box_cell {w w1:World} {c:Array Value} {T:TypeId} (h:Below (w.alloc (.cells c T)).heap.size (w.alloc (.cells c T)) w1) {j:Nat} {v:Value} (hv:c[j]? = some v) :w1.cell? ⟨w.heap.size,j,none⟩ =some v:=by
 rw [h.cell (p:=⟨w.heap.size,j,none⟩) (by simp),cell_of_row (w.alloc (.cells c T)) w.heap.size j c T (0,0) (heap_alloc_new w _)]
 exact hv
end Go.Proofs.YtiijaaohphokcaaGreatDoor

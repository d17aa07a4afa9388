/- A part of the proof of AlgebraMade. -/
import Derived.Test.YtogalchclmmfgaaDoorProg
import Derived.WalkKit
import Derived.WalkSpells
import Derived.Deep.Draws
import Derived.WalkLawsBesides
import Derived.KernelRfl
import Derived.StillTailTactics
import Derived.Deep.QuietTactic
import Derived.BigQuiet
import Derived.Orders
set_option maxRecDepth 100000
set_option maxHeartbeats 16000000
namespace Go.Proofs.YtogalchclmmfgaaDoor
open Go.RowKit
structure Hd where
  ao:Option Addr
  cap:Nat
def Hd.b (h:Hd) :Nat:=(h.ao.getD ⟨0,0,none⟩).block
def Hd.o (h:Hd) :Nat:=(h.ao.getD ⟨0,0,none⟩).off
def nilHd:Hd:=⟨none,0⟩
def Row {α:Type} (w:World) (size:Nat) (cells:α→List Value) (h:Hd) (xs:List α) :Prop:=
  xs.length≤h.cap∧h.cap≤maxLen∧(0<xs.length→h.ao=some ⟨h.b,h.o,none⟩∧h.b<w.heap.size)∧
    ∀(i:Nat) (hi:i<xs.length) (j:Nat) (v:Value),(cells (xs[i]'hi))[j]? = some v→w.cell? ⟨h.b,h.o+i*size+j,none⟩ =some v
theorem Row.mono {α:Type} {w w':World} {size:Nat} {cells:α→List Value} {h:Hd} {xs:List α} (hr:Row w size cells h xs) (hb:Below w.heap.size w w') :Row w' size cells h xs:=by
  obtain⟨h1,h2,h3,h4⟩:=hr;refine⟨h1,h2,fun hp=>⟨(h3 hp).1,Nat.lt_of_lt_of_le (h3 hp).2 hb.size⟩,fun i hi j v hv=> ?_⟩
  rw [hb.cell (p:=⟨h.b,_,none⟩) (h3 (by omega)).2]
  exact h4 i hi j v hv
theorem Row.nil {α:Type} (w:World) (size:Nat) (cells:α→List Value) :Row w size cells nilHd []:=
  ⟨Nat.le_refl _,Nat.zero_le _,fun h=>absurd h (by simp),fun i hi=>absurd hi (by simp)⟩
theorem Row.len {α:Type} {w:World} {size:Nat} {cells:α→List Value} {h:Hd} {xs:List α} (hr:Row w size cells h xs) :xs.length≤9223372036854775807:=by
  have h1:=hr.1;have h2:=hr.2.1
  unfold maxLen at h2
  omega
theorem Row.blk {α:Type} {w:World} {size:Nat} {cells:α→List Value} {h:Hd} {xs:List α} (hr:Row w size cells h xs) {i:Nat} (hi:i<xs.length) :h.b<w.heap.size:=(hr.2.2.1 (by omega)).2
theorem Row.ix {α:Type} {w:World} {size:Nat} {cells:α→List Value} {h:Hd} {xs:List α} (hr:Row w size cells h xs) {i:Nat} (hi:i<xs.length) {P:Program} {t e:TypeId}
    (ht:P.underlying t=some (.slice e)) (hs: (P.info? e).map (·.size) =some size) :
    ∀W,(Instr.indexAt t (.slice h.ao xs.length h.cap) (.int .i64 (i:Int))).run P W = .ok (.pointer (some ⟨h.b,h.o+i*size,none⟩)) W:=by
  intro W;obtain⟨j,hj,hsz⟩:=Option.map_eq_some_iff.1 hs;have he:P.elem t=e:=by simp [Program.elem,ht]
  rw [(hr.2.2.1 (by omega)).1,run_indexAt_slice _ _ _ _ _ _ _ (by rw [he];exact ht),he,if_pos ⟨by omega,by omega⟩]
  simp [sizeOf,typeInfo,hj,hsz,Addr.add_lit]
theorem ai {p:Prop} (h:p) :Hid p:=h
theorem _root_.Go.RowKit.Hid.o {p:Prop} (h:Hid p) :p:=h
def int64 (n:Int) :Prop:=-9223372036854775808≤n∧n≤9223372036854775807
structure IL where
  h:Hd
  l:List Int
abbrev icells (n:Int) :List Value:= [.int .i64 n]
def IL.In (w:World) (x:IL) :Prop:=Row w 1 icells x.h x.l∧∀n∈x.l,int64 n
abbrev IL.cells (x:IL) :List Value:= [.slice x.h.ao x.l.length x.h.cap]
structure V where
  kind:Int
  num:Int
  text:ByteArray
abbrev V.cells (v:V) :List Value:= [.int .i64 v.kind,.int .i64 v.num,.string v.text]
def V.wf (v:V) :Prop:=int64 v.kind∧int64 v.num∧v.text.size≤maxLen
structure VL where
  h:Hd
  l:List V
abbrev VL.cells (x:VL) :List Value:= [.slice x.h.ao x.l.length x.h.cap]
def VL.In (w:World) (x:VL) :Prop:=Row w 3 V.cells x.h x.l∧∀v∈x.l,v.wf
structure Col where
  name:ByteArray
  typ:Int
  nul:Bool
abbrev Col.cells (c:Col) :List Value:= [.string c.name,.int .i64 c.typ,.bool c.nul]
def Col.wf (c:Col) :Prop:=c.name.size≤maxLen∧int64 c.typ
structure Frn where
  cols:IL
  tab:ByteArray
abbrev Frn.cells (f:Frn) :List Value:= [.slice f.cols.h.ao f.cols.l.length f.cols.h.cap,.string f.tab]
def Frn.In (w:World) (f:Frn) :Prop:=f.cols.In w∧f.tab.size≤maxLen
structure Ex where
  op:Int
  typ:Int
  num:Int
  text:ByteArray
  col:Int
  kh:Hd
  kids:List Ex
abbrev Ex.cells (e:Ex) :List Value:= [.int .i64 e.op,.int .i64 e.typ,.int .i64 e.num,.string e.text,.int .i64 e.col,.slice e.kh.ao e.kids.length e.kh.cap]
def Ex.wf (e:Ex) :Prop:=int64 e.op∧int64 e.typ∧int64 e.num∧e.text.size≤maxLen∧int64 e.col
inductive Ex.In (w:World) :Ex→Prop where
  | mk (e:Ex) (hw:e.wf) (hr:Row w 6 Ex.cells e.kh e.kids) (hk: ∀k∈e.kids,Ex.In w k) :Ex.In w e
theorem Ex.In.wf {w:World} {e:Ex} (h:e.In w) :e.wf:=by cases h;assumption
theorem Ex.In.row {w:World} {e:Ex} (h:e.In w) :Row w 6 Ex.cells e.kh e.kids:=by cases h;assumption
theorem Ex.In.kid {w:World} {e:Ex} (h:e.In w) : ∀k∈e.kids,k.In w:=by cases h;assumption
theorem Ex.In.mono {w w':World} {e:Ex} (h:e.In w) (hb:Below w.heap.size w w') :e.In w':=by
  induction h with
  | mk e hw hr hk ih=>exact⟨e,hw,hr.mono hb,ih⟩
structure Tab where
  name:ByteArray
  ch:Hd
  cols:List Col
  prim:IL
  uh:Hd
  uniqs:List IL
  fh:Hd
  fors:List Frn
  kh:Hd
  checks:List Ex
abbrev Tab.cells (t:Tab) :List Value:= [.string t.name,.slice t.ch.ao t.cols.length t.ch.cap,.slice t.prim.h.ao t.prim.l.length t.prim.h.cap,.slice t.uh.ao t.uniqs.length t.uh.cap,.slice t.fh.ao t.fors.length t.fh.cap,.slice t.kh.ao t.checks.length t.kh.cap]
structure Tab.In (w:World) (t:Tab) :Prop where
  nm:t.name.size≤maxLen
  rc:Row w 3 Col.cells t.ch t.cols
  cs: ∀c∈t.cols,c.wf
  rp:t.prim.In w
  ru:Row w 1 IL.cells t.uh t.uniqs
  us: ∀u∈t.uniqs,u.In w
  rf:Row w 2 Frn.cells t.fh t.fors
  fs: ∀f∈t.fors,f.In w
  rk:Row w 6 Ex.cells t.kh t.checks
  ks: ∀k∈t.checks,k.In w
structure Sch where
  th:Hd
  tabs:List Tab
abbrev Sch.cells (s:Sch) :List Value:= [.slice s.th.ao s.tabs.length s.th.cap]
structure Sch.In (w:World) (s:Sch) :Prop where
  rt:Row w 6 Tab.cells s.th s.tabs
  ts: ∀t∈s.tabs,t.In w
structure Agg where
  fn:Int
  arg:Ex
abbrev Agg.cells (a:Agg) :List Value:= [.int .i64 a.fn,.int .i64 a.arg.op,.int .i64 a.arg.typ,.int .i64 a.arg.num,.string a.arg.text,.int .i64 a.arg.col,.slice a.arg.kh.ao a.arg.kids.length a.arg.kh.cap]
structure Qu where
  op:Int
  table:ByteArray
  kind:Int
  all:Bool
  cond:Ex
  eh:Hd
  exprs:List Ex
  ah:Hd
  aggs:List Agg
  types:IL
  rh:Hd
  rows:List VL
  qh:Hd
  kids:List Qu
abbrev Qu.cells (q:Qu) :List Value:= [.int .i64 q.op,.string q.table,.int .i64 q.kind,.bool q.all,
  .int .i64 q.cond.op,.int .i64 q.cond.typ,.int .i64 q.cond.num,.string q.cond.text,.int .i64 q.cond.col,.slice q.cond.kh.ao q.cond.kids.length q.cond.kh.cap,
  .slice q.eh.ao q.exprs.length q.eh.cap,.slice q.ah.ao q.aggs.length q.ah.cap,.slice q.types.h.ao q.types.l.length q.types.h.cap,.slice q.rh.ao q.rows.length q.rh.cap,.slice q.qh.ao q.kids.length q.qh.cap]
@[reducible] def Qu.lit (q:Qu) :Array Value:=#[.int .i64 q.op,.string q.table,.int .i64 q.kind,.bool q.all,.int .i64 q.cond.op,.int .i64 q.cond.typ,.int .i64 q.cond.num,.string q.cond.text,.int .i64 q.cond.col,.slice q.cond.kh.ao q.cond.kids.length q.cond.kh.cap,.slice q.eh.ao q.exprs.length q.eh.cap,.slice q.ah.ao q.aggs.length q.ah.cap,.slice q.types.h.ao q.types.l.length q.types.h.cap,.slice q.rh.ao q.rows.length q.rh.cap,.slice q.qh.ao q.kids.length q.qh.cap]
structure Qu.flat (w:World) (q:Qu) :Prop where
  op:int64 q.op
  tb:q.table.size≤maxLen
  kd:int64 q.kind
  cd:q.cond.In w
  re:Row w 6 Ex.cells q.eh q.exprs
  es: ∀e∈q.exprs,e.In w
  ra:Row w 7 Agg.cells q.ah q.aggs
  ags: ∀a∈q.aggs,int64 a.fn∧a.arg.In w
  ty:q.types.In w
  rr:Row w 1 VL.cells q.rh q.rows
  rs: ∀r∈q.rows,r.In w
inductive Qu.In (w:World) :Qu→Prop where
  | mk (q:Qu) (hf:q.flat w) (hr:Row w 15 Qu.cells q.qh q.kids) (hk: ∀k∈q.kids,Qu.In w k) :Qu.In w q
theorem Qu.In.flat {w:World} {e:Qu} (h:e.In w) :e.flat w:=by cases h;assumption
theorem Qu.In.row {w:World} {e:Qu} (h:e.In w) :Row w 15 Qu.cells e.qh e.kids:=by cases h;assumption
theorem Qu.In.kid {w:World} {e:Qu} (h:e.In w) : ∀k∈e.kids,k.In w:=by cases h;assumption
section
variable {w w':World}
theorem IL.In.mono {x:IL} (h:x.In w) (hb:Below w.heap.size w w') :x.In w':=⟨h.1.mono hb,h.2⟩
theorem VL.In.mono {x:VL} (h:x.In w) (hb:Below w.heap.size w w') :x.In w':=⟨h.1.mono hb,h.2⟩
theorem Frn.In.mono {x:Frn} (h:x.In w) (hb:Below w.heap.size w w') :x.In w':=⟨h.1.mono hb,h.2⟩
theorem Tab.In.mono {t:Tab} (h:t.In w) (hb:Below w.heap.size w w') :t.In w':=
  ⟨h.nm,h.rc.mono hb,h.cs,h.rp.mono hb,h.ru.mono hb,fun u hu=>(h.us u hu).mono hb,h.rf.mono hb,fun u hu=>(h.fs u hu).mono hb,h.rk.mono hb,fun u hu=>(h.ks u hu).mono hb⟩
theorem Sch.In.mono {t:Sch} (h:t.In w) (hb:Below w.heap.size w w') :t.In w':=⟨h.rt.mono hb,fun u hu=>(h.ts u hu).mono hb⟩
theorem Qu.flat.mono {q:Qu} (h:q.flat w) (hb:Below w.heap.size w w') :q.flat w':=
  ⟨h.op,h.tb,h.kd,h.cd.mono hb,h.re.mono hb,fun u hu=>(h.es u hu).mono hb,h.ra.mono hb,fun u hu=>⟨(h.ags u hu).1,(h.ags u hu).2.mono hb⟩,h.ty.mono hb,h.rr.mono hb,fun u hu=>(h.rs u hu).mono hb⟩
theorem Qu.In.mono {q:Qu} (h:q.In w) (hb:Below w.heap.size w w') :q.In w':=by
  induction h with
  | mk e hw hr hk ih=>exact⟨e,hw.mono hb,hr.mono hb,ih⟩
end
section
variable {w:World} {h:Hd} {i:Nat}
theorem int_at {xs:List Int} (hr:Row w 1 icells h xs) (hi:i<xs.length) :w.cell? ⟨h.b,h.o+i,none⟩ =some (.int .i64 xs[i]):=by
  have:=hr.2.2.2 i hi 0 _ rfl
  simpa using this
theorem col_at {xs:List Col} (hr:Row w 3 Col.cells h xs) (hi:i<xs.length) :w.cell? ⟨h.b,h.o+i*3,none⟩ =some (.string xs[i].name)∧w.cell? ⟨h.b,h.o+i*3+1,none⟩ =some (.int .i64 xs[i].typ)∧w.cell? ⟨h.b,h.o+i*3+2,none⟩ =some (.bool xs[i].nul):=
  ⟨hr.2.2.2 i hi 0 _ rfl,hr.2.2.2 i hi 1 _ rfl,hr.2.2.2 i hi 2 _ rfl⟩
theorem val_at {xs:List V} (hr:Row w 3 V.cells h xs) (hi:i<xs.length) :w.cell? ⟨h.b,h.o+i*3,none⟩ =some (.int .i64 xs[i].kind)∧w.cell? ⟨h.b,h.o+i*3+1,none⟩ =some (.int .i64 xs[i].num)∧w.cell? ⟨h.b,h.o+i*3+2,none⟩ =some (.string xs[i].text):=
  ⟨hr.2.2.2 i hi 0 _ rfl,hr.2.2.2 i hi 1 _ rfl,hr.2.2.2 i hi 2 _ rfl⟩
theorem il_at {xs:List IL} (hr:Row w 1 IL.cells h xs) (hi:i<xs.length) :w.cell? ⟨h.b,h.o+i,none⟩ =some (.slice xs[i].h.ao xs[i].l.length xs[i].h.cap):=by
  have:=hr.2.2.2 i hi 0 _ rfl
  simpa using this
theorem vl_at {xs:List VL} (hr:Row w 1 VL.cells h xs) (hi:i<xs.length) :w.cell? ⟨h.b,h.o+i,none⟩ =some (.slice xs[i].h.ao xs[i].l.length xs[i].h.cap):=by
  have:=hr.2.2.2 i hi 0 _ rfl
  simpa using this
theorem ex_at {xs:List Ex} (hr:Row w 6 Ex.cells h xs) (hi:i<xs.length) :w.cell? ⟨h.b,h.o+i*6,none⟩ =some (.int .i64 xs[i].op)∧w.cell? ⟨h.b,h.o+i*6+1,none⟩ =some (.int .i64 xs[i].typ)∧w.cell? ⟨h.b,h.o+i*6+2,none⟩ =some (.int .i64 xs[i].num)∧
    w.cell? ⟨h.b,h.o+i*6+3,none⟩ =some (.string xs[i].text)∧w.cell? ⟨h.b,h.o+i*6+4,none⟩ =some (.int .i64 xs[i].col)∧w.cell? ⟨h.b,h.o+i*6+5,none⟩ =some (.slice xs[i].kh.ao xs[i].kids.length xs[i].kh.cap):=
  ⟨hr.2.2.2 i hi 0 _ rfl,hr.2.2.2 i hi 1 _ rfl,hr.2.2.2 i hi 2 _ rfl,hr.2.2.2 i hi 3 _ rfl,hr.2.2.2 i hi 4 _ rfl,hr.2.2.2 i hi 5 _ rfl⟩
theorem tab_at {xs:List Tab} (hr:Row w 6 Tab.cells h xs) (hi:i<xs.length) :w.cell? ⟨h.b,h.o+i*6,none⟩ =some (.string xs[i].name)∧w.cell? ⟨h.b,h.o+i*6+1,none⟩ =some (.slice xs[i].ch.ao xs[i].cols.length xs[i].ch.cap)∧
    w.cell? ⟨h.b,h.o+i*6+2,none⟩ =some (.slice xs[i].prim.h.ao xs[i].prim.l.length xs[i].prim.h.cap)∧w.cell? ⟨h.b,h.o+i*6+3,none⟩ =some (.slice xs[i].uh.ao xs[i].uniqs.length xs[i].uh.cap)∧
    w.cell? ⟨h.b,h.o+i*6+4,none⟩ =some (.slice xs[i].fh.ao xs[i].fors.length xs[i].fh.cap)∧w.cell? ⟨h.b,h.o+i*6+5,none⟩ =some (.slice xs[i].kh.ao xs[i].checks.length xs[i].kh.cap):=
  ⟨hr.2.2.2 i hi 0 _ rfl,hr.2.2.2 i hi 1 _ rfl,hr.2.2.2 i hi 2 _ rfl,hr.2.2.2 i hi 3 _ rfl,hr.2.2.2 i hi 4 _ rfl,hr.2.2.2 i hi 5 _ rfl⟩
theorem agg_at {xs:List Agg} (hr:Row w 7 Agg.cells h xs) (hi:i<xs.length) :w.cell? ⟨h.b,h.o+i*7,none⟩ =some (.int .i64 xs[i].fn)∧w.cell? ⟨h.b,h.o+i*7+1,none⟩ =some (.int .i64 xs[i].arg.op)∧w.cell? ⟨h.b,h.o+i*7+2,none⟩ =some (.int .i64 xs[i].arg.typ)∧w.cell? ⟨h.b,h.o+i*7+3,none⟩ =some (.int .i64 xs[i].arg.num)∧
    w.cell? ⟨h.b,h.o+i*7+4,none⟩ =some (.string xs[i].arg.text)∧w.cell? ⟨h.b,h.o+i*7+5,none⟩ =some (.int .i64 xs[i].arg.col)∧w.cell? ⟨h.b,h.o+i*7+6,none⟩ =some (.slice xs[i].arg.kh.ao xs[i].arg.kids.length xs[i].arg.kh.cap):=
  ⟨hr.2.2.2 i hi 0 _ rfl,hr.2.2.2 i hi 1 _ rfl,hr.2.2.2 i hi 2 _ rfl,hr.2.2.2 i hi 3 _ rfl,hr.2.2.2 i hi 4 _ rfl,hr.2.2.2 i hi 5 _ rfl,hr.2.2.2 i hi 6 _ rfl⟩
theorem qu_at {xs:List Qu} (hr:Row w 15 Qu.cells h xs) (hi:i<xs.length) :
    (w.cell? ⟨h.b,h.o+i*15,none⟩ =some (.int .i64 xs[i].op)∧w.cell? ⟨h.b,h.o+i*15+1,none⟩ =some (.string xs[i].table)∧w.cell? ⟨h.b,h.o+i*15+2,none⟩ =some (.int .i64 xs[i].kind)∧w.cell? ⟨h.b,h.o+i*15+3,none⟩ =some (.bool xs[i].all))∧
    (w.cell? ⟨h.b,h.o+i*15+4,none⟩ =some (.int .i64 xs[i].cond.op)∧w.cell? ⟨h.b,h.o+i*15+5,none⟩ =some (.int .i64 xs[i].cond.typ)∧w.cell? ⟨h.b,h.o+i*15+6,none⟩ =some (.int .i64 xs[i].cond.num)∧
      w.cell? ⟨h.b,h.o+i*15+7,none⟩ =some (.string xs[i].cond.text)∧w.cell? ⟨h.b,h.o+i*15+8,none⟩ =some (.int .i64 xs[i].cond.col)∧w.cell? ⟨h.b,h.o+i*15+9,none⟩ =some (.slice xs[i].cond.kh.ao xs[i].cond.kids.length xs[i].cond.kh.cap))∧
    (w.cell? ⟨h.b,h.o+i*15+10,none⟩ =some (.slice xs[i].eh.ao xs[i].exprs.length xs[i].eh.cap)∧w.cell? ⟨h.b,h.o+i*15+11,none⟩ =some (.slice xs[i].ah.ao xs[i].aggs.length xs[i].ah.cap)∧w.cell? ⟨h.b,h.o+i*15+12,none⟩ =some (.slice xs[i].types.h.ao xs[i].types.l.length xs[i].types.h.cap)∧
      w.cell? ⟨h.b,h.o+i*15+13,none⟩ =some (.slice xs[i].rh.ao xs[i].rows.length xs[i].rh.cap)∧w.cell? ⟨h.b,h.o+i*15+14,none⟩ =some (.slice xs[i].qh.ao xs[i].kids.length xs[i].qh.cap)):=
  ⟨⟨hr.2.2.2 i hi 0 _ rfl,hr.2.2.2 i hi 1 _ rfl,hr.2.2.2 i hi 2 _ rfl,hr.2.2.2 i hi 3 _ rfl⟩,⟨hr.2.2.2 i hi 4 _ rfl,hr.2.2.2 i hi 5 _ rfl,hr.2.2.2 i hi 6 _ rfl,hr.2.2.2 i hi 7 _ rfl,hr.2.2.2 i hi 8 _ rfl,hr.2.2.2 i hi 9 _ rfl⟩,
   hr.2.2.2 i hi 10 _ rfl,hr.2.2.2 i hi 11 _ rfl,hr.2.2.2 i hi 12 _ rfl,hr.2.2.2 i hi 13 _ rfl,hr.2.2.2 i hi 14 _ rfl⟩
end
theorem ret1 {a a':Int} (h:a=a') :Ending.returned (.int .i64 a) = .returned (.int .i64 a'):=by rw [h]
theorem ret2 {a a':Int} {b b':Bool} (h:a=a'∧b=b') :Ending.returned (.tuple #[.int .i64 a,.bool b]) = .returned (.tuple #[.int .i64 a',.bool b']):=by rw [h.1,h.2]
theorem retb {a a':Bool} (h:a=a') :Ending.returned (.bool a) = .returned (.bool a'):=by rw [h]
def BoolPost (Q:Prop) (e:Ending) :Prop:=∃b,e = .returned (.bool b)∧(b=true→Q)
theorem bel1 {w w1:World} {x:Obj} (h:Below (w.alloc x).heap.size (w.alloc x) w1) :Below w.heap.size w w1:=
  ((Below.refl _ _).alloc (Nat.le_refl _) _).trans (h.mono (by simp))
theorem bel2 {w w1:World} {x y:Obj} (h:Below ((w.alloc x).alloc y).heap.size ((w.alloc x).alloc y) w1) :Below w.heap.size w w1:=bel1 (bel1 h)
theorem belA {w:World} (x:Obj) :Below w.heap.size w (w.alloc x):=(Below.refl _ _).alloc (Nat.le_refl _) _
theorem belAA {w:World} (x y:Obj) :Below w.heap.size w ((w.alloc x).alloc y):=(belA x).alloc (by simp) _
theorem belD {w:World} (x:Obj) :Below w.heap.size w (w.alloc x).drew:=(belA x).drew
theorem below_drewN {B:Nat} {a w:World} (h:Below B a w) (n:Nat) :Below B a (w.drewN n):=⟨h.os,h.tape,h.output,h.size,h.block⟩
theorem bT {a b c:World} (h:Below a.heap.size a b) (k:Below b.heap.size b c) :Below a.heap.size a c:=h.trans (k.mono h.size)
theorem bel_drew {a b:World} (h:Below a.drew.heap.size a.drew b) :Below a.heap.size a b:=⟨h.os,h.tape,h.output,h.size,h.block⟩
theorem flatMap_at {α:Type} {size:Nat} {cells:α→List Value} (hs: ∀x,(cells x).length=size) : ∀(xs:List α) (i j:Nat) (hi:i<xs.length),j<size→(xs.flatMap cells)[i*size+j]? = (cells xs[i])[j]?
  | [],i,_,hi,_=>absurd hi (by simp)
  | x :: xs,0,j,_,hj=>by
    simp only [List.flatMap_cons,Nat.zero_mul,Nat.zero_add,List.getElem_cons_zero];rw [List.getElem?_append_left (by rw [hs];exact hj)]
  | x :: xs,i+1,j,hi,hj=>by
    simp only [List.flatMap_cons,List.getElem_cons_succ];rw [List.getElem?_append_right (by rw [hs,Nat.add_mul];omega),hs]
    rw [show(i+1) *size+j - size=i*size+j by rw [Nat.add_mul];omega]
    exact flatMap_at hs xs i j (by simpa using hi) hj
theorem flatMap_len {α:Type} {size:Nat} {cells:α→List Value} (hs: ∀x,(cells x).length=size) (xs:List α) : (xs.flatMap cells).length=xs.length*size:=by
  induction xs with
  | nil=>simp
  | cons x xs ih=>simp only [List.flatMap_cons,List.length_append,hs,ih,List.length_cons,Nat.add_mul];omega
theorem own_row {α:Type} {w:World} {base:Nat} {e:TypeId} {size:Nat} {v:Value} {n:Nat} {cells:α→List Value} {xs:List α} (hs: ∀x,(cells x).length=size) (hpos:0<size)
    (h:w.ownsRow base e size v n (xs.flatMap cells)) : ∃hd:Hd,v = .slice hd.ao xs.length hd.cap∧Row w size cells hd xs:=by
  obtain⟨hlen,h⟩:=h;have hn:n=xs.length:=by
    rw [flatMap_len hs]at hlen;exact(Nat.eq_of_mul_eq_mul_right hpos hlen).symm
  subst hn;rcases h with⟨rfl,h0⟩ | ⟨g,cap,cur,rfl,hb,hg,hnc,hcm,hcs,htake⟩
  · have:xs = []:=List.eq_nil_of_length_eq_zero h0
    subst this;exact⟨nilHd,rfl,Row.nil _ _ _⟩
  · refine⟨⟨some ⟨g,0,none⟩,cap⟩,rfl,hnc,hcm,fun _=>⟨rfl,(Array.getElem?_eq_some_iff.1 hg).1⟩,fun i hi j v hv=> ?_⟩
    have hj:j<size:=by
      have:=(List.getElem?_eq_some_iff.1 hv).1
      rwa [hs]at this
    show w.cell? ⟨g,0+i*size+j,none⟩ =some v
    rw [cell_of_row w g _ cur e (0,0) hg,Nat.zero_add];rw [←flatMap_at hs xs i j hi hj,←htake]at hv;have hv':=(List.getElem?_eq_some_iff.1 hv).1;rw [List.getElem?_take_of_lt (by rw [List.length_take]at hv';omega)]at hv
    simpa using hv
theorem new_cells {w:World} {l:List Value} {t:TypeId} : ∀j u,l[j]? = some u→(w.alloc (.cells l.toArray t)).cell? ((⟨w.heap.size,0,none⟩ :Addr).add j) =some u:=by
  intro j u hu;rw [Addr.add_lit,Nat.zero_add,cell_of_row (w.alloc (.cells l.toArray t)) w.heap.size j l.toArray t (0,0) (heap_alloc_new w _)]
  simpa using hu
theorem new_cells1 {w:World} {x:Obj} {l:List Value} {t:TypeId} : ∀j u,l[j]? = some u→((w.alloc x).alloc (.cells l.toArray t)).cell? ((⟨w.heap.size+1,0,none⟩ :Addr).add j) =some u:=by
  have:=new_cells (w:=w.alloc x) (l:=l) (t:=t)
  simpa using this
theorem one_int {n:Int} {k:IntKind} : ∀u∈ [Value.int k n],u.oneCell'=true:=by intro u hu;simp at hu;subst hu;rfl
theorem own_snoc {w:World} {base:Nat} {e:TypeId} {v:Value} {size k:Nat} {α:Type} {xs:List α} {cells:α→List Value} (hk:k<xs.length) (h:w.ownsRow base e size v (k+1) ((xs.take k).flatMap cells ++ cells xs[k])) :
    w.ownsRow base e size v (k+1) ((xs.take (k+1)).flatMap cells):=by
  rw [List.take_succ_eq_append_getElem hk,List.flatMap_append]
  simpa only [List.flatMap_cons,List.flatMap_nil,List.append_nil]using h
theorem grown1 {B:Nat} {a w w':World} {x:Obj} {row:Option Nat} (h:Below B a w) (hB:B≤w.heap.size) (hg: (w.alloc x).grownBy w' row) (hr: ∀k,row=some k→B≤k) :Below B a w':=
  (h.trans ((belA _).mono hB)).grown hg (by simp;omega) hr
theorem grown2 {B:Nat} {a w w':World} {x y:Obj} {row:Option Nat} (h:Below B a w) (hB:B≤w.heap.size) (hg: ((w.alloc x).alloc y).grownBy w' row) (hr: ∀k,row=some k→B≤k) :Below B a w':=
  (h.trans ((belAA _ _).mono hB)).grown hg (by simp;omega) hr
theorem box_cell {w w1:World} {c:Array Value} {T:TypeId} (h:Below (w.alloc (.cells c T)).heap.size (w.alloc (.cells c T)) w1) {j:Nat} {v:Value} (hv:c[j]? = some v) :w1.cell? ⟨w.heap.size,j,none⟩ =some v:=by
  rw [h.cell (p:=⟨w.heap.size,j,none⟩) (by simp),cell_of_row (w.alloc (.cells c T)) w.heap.size j c T (0,0) (heap_alloc_new w _)]
  exact hv
end Go.Proofs.YtogalchclmmfgaaDoor
namespace Go.Proofs.YtogalchclmmfgaaDoor
open Go.RowKit
def fi {α:Type} (p:α→Bool) (xs:List α) :Int:=((xs.findIdx? p).getD 0:Nat)
def fok {α:Type} (p:α→Bool) (xs:List α) :Bool:=(xs.findIdx? p).isSome
theorem findIdx_hit {α:Type} {p:α→Bool} {xs:List α} {k:Nat} (hk:k<xs.length) (hp:p xs[k] =true) (hn: ∀j (hj:j<xs.length),j<k→p xs[j] =false) :xs.findIdx? p=some k:=by
 rw [List.findIdx?_eq_some_iff_getElem];exact⟨hk,hp,fun j hj=>by rw [hn j (by omega) hj];simp⟩
theorem findIdx_miss {α:Type} {p:α→Bool} {xs:List α} (hn: ∀j (hj:j<xs.length),p xs[j] =false) :xs.findIdx? p=none:=by
 rw [List.findIdx?_eq_none_iff];intro x hx;obtain⟨i,hi,rfl⟩:=List.getElem_of_mem hx;rw [hn i hi]
theorem fi_hit {α:Type} {p:α→Bool} {xs:List α} {k:Nat} (hk:k<xs.length) (hp:p xs[k] =true) (hn: ∀j (hj:j<xs.length),j<k→p xs[j] =false) :fi p xs=k∧fok p xs=true:=by
 unfold fi fok;rw [findIdx_hit hk hp hn];simp
theorem fi_miss {α:Type} {p:α→Bool} {xs:List α} (hn: ∀j (hj:j<xs.length),p xs[j] =false) :fi p xs=0∧fok p xs=false:=by
 unfold fi fok;rw [findIdx_miss hn];simp
def named (t:ByteArray) (x:Tab) :Bool:=x.name.toList == t.toList
def cnamed (t:ByteArray) (x:Col) :Bool:=x.name.toList == t.toList
theorem sz22: (Tryd.prog.info? 39).map (·.size) =some 6:=by kernel_rfl
theorem sz30: (Tryd.prog.info? 41).map (·.size) =some 3:=by kernel_rfl
theorem rfind_any (s:Sch) (t:ByteArray) (w:World) (hin:s.In w) :
  Calls Tryd.prog 26 #[.agg #[.slice s.th.ao s.tabs.length s.th.cap],.string t] w fun e w'=>e = .returned (.tuple #[.int .i64 (fi (named t) s.tabs),.bool (fok (named t) s.tabs)])∧Below w.heap.size w w':=by
 have hn:=hin.rt.len
 go_enter Tryd.func26,Tryd.ntmps26;go_wp2;go_loop [6] (fun i=>∃k:Nat,k≤s.tabs.length∧i = .int .i64 k∧∀j (hj:j<s.tabs.length),j<k→named t s.tabs[j] =false) (fun i=>s.tabs.length - (intOf i).toNat)
 case atStart=>exact⟨0,Nat.zero_le _,rfl,fun j _ h=>absurd h (by omega)⟩
 case round=>
  obtain⟨k,hk,rfl,hno⟩:=hrel;have HN:=ai hno;clear hno;by_cases hlt:k<s.tabs.length
  ·have hix:=hin.rt.ix hlt Tryd.underlying26 sz22
   have hb:=hin.rt.blk hlt;obtain⟨c0,_⟩:=tab_at hin.rt hlt;by_cases hp: (s.tabs[k].name.toList == t.toList) =true
   ·go_wp2
    go_ret2
    exact⟨ret2 ⟨(fi_hit hlt hp (fun j hj h=>HN.o j hj h)).1.symm,(fi_hit hlt hp (fun j hj h=>HN.o j hj h)).2.symm⟩,(Below.refl _ _).alloc (Nat.le_refl _) _⟩
   ·have hp': (s.tabs[k].name.toList == t.toList) =false:=by simpa using hp
    clear hp;go_wp2;go_round
    case rel=>
     refine⟨k+1,by omega,by go_num,fun j hj h=> ?_⟩
     by_cases e:j=k
     ·subst e;exact hp'
     ·exact HN.o j hj (by omega)
    case measure=>simp [intOf];omega
  ·go_wp2
   go_ret2
   exact⟨ret2 ⟨(fi_miss (fun j hj=>HN.o j hj (by omega))).1.symm,(fi_miss (fun j hj=>HN.o j hj (by omega))).2.symm⟩,(Below.refl _ _).alloc (Nat.le_refl _) _⟩
def fx {α:Type} (p:α→Bool) (xs:List α) :Int:=if fok p xs then fi p xs else -1
theorem fx_hit {α:Type} {p:α→Bool} {xs:List α} {k:Nat} (hk:k<xs.length) (hp:p xs[k] =true) (hn: ∀j (hj:j<xs.length),j<k→p xs[j] =false) :fx p xs=k:=by
 unfold fx;rw [if_pos (fi_hit hk hp hn).2,(fi_hit hk hp hn).1]
theorem fx_miss {α:Type} {p:α→Bool} {xs:List α} (hn: ∀j (hj:j<xs.length),p xs[j] =false) :fx p xs = -1:=by
 unfold fx;rw [if_neg (by rw [(fi_miss hn).2];simp)]
theorem fx_lt {α:Type} {p:α→Bool} {xs:List α} : -1≤fx p xs∧fx p xs<xs.length∨fx p xs = -1:=by
 by_cases h: ∀j (hj:j<xs.length),p xs[j] =false
 ·exact .inr (fx_miss h)
 ·left
  unfold fx fok fi
  cases hf:xs.findIdx? p with
  | none=>simp;omega
  | some k=>
   have:=(List.findIdx?_eq_some_iff_getElem.1 hf).1;simp;omega
theorem tclo_any (x:Tab) (t:ByteArray) (c:Nat) (w:World) (hc:w.cell? ⟨c,0,none⟩ =some (.string t)) :
  Calls Tryd.prog 46 #[.agg #[.string x.name,.slice x.ch.ao x.cols.length x.ch.cap,.slice x.prim.h.ao x.prim.l.length x.prim.h.cap,.slice x.uh.ao x.uniqs.length x.uh.cap,.slice x.fh.ao x.fors.length x.fh.cap,.slice x.kh.ao x.checks.length x.kh.cap],.pointer (some ⟨c,0,none⟩)] w
   fun e w'=>e = .returned (.bool (named t x))∧Below w.heap.size w w':=by
 have hlt:c<w.heap.size:=World.block_lt_of_cell? w ⟨c,0,none⟩ hc
 go_enter Tryd.func46,Tryd.ntmps46;go_wp2;go_ret
 exact⟨rfl,(Below.refl _ _).alloc (Nat.le_refl _) _⟩
theorem tindex_any (s:Sch) (t:ByteArray) (c:Nat) (w:World) (hin:s.In w) (hc:w.cell? ⟨c,0,none⟩ =some (.string t)) :
  Calls Tryd.prog 45 #[.slice s.th.ao s.tabs.length s.th.cap,.func (.func 46) #[] #[.pointer (some ⟨c,0,none⟩)]] w
   fun e w'=>e = .returned (.int .i64 (fx (named t) s.tabs))∧Below w.heap.size w w':=by
 have hlc:c<w.heap.size:=World.block_lt_of_cell? w ⟨c,0,none⟩ hc;have hn:=hin.rt.len
 go_enter Tryd.func45,Tryd.ntmps45;go_wp2;go_loopw [5,8] (fun _ i wr=>∃k:Nat,k≤s.tabs.length∧i = .int .i64 k∧(∀j (hj:j<s.tabs.length),j<k→named t s.tabs[j] =false)∧Below w.heap.size w wr) (fun _ i _=>s.tabs.length - (intOf i).toNat)
 case atStart=>exact⟨0,Nat.zero_le _,rfl,fun j _ h=>absurd h (by omega),Below.refl _ _⟩
 case round=>
  obtain⟨k,hk,rfl,hno,hbw⟩:=hrel;have HN:=ai hno;have HB:=ai hbw;have hin':=hin.mono hbw;have hc':wr.cell? ⟨c,0,none⟩ =some (.string t):=by rw [hbw.cell hlc];exact hc
  clear hno hbw hc;by_cases hlt:k<s.tabs.length
  ·have hix:=hin'.rt.ix hlt Tryd.underlying26 sz22
   obtain⟨c0,c1,c2,c3,c4,c5⟩:=tab_at hin'.rt hlt
   cases hp:named t s.tabs[k]
   all_goals
    have HP:=ai hp;clear hp;go_wp2_with (go_at_call 46;refine(tclo_any s.tabs[k] t c _ hc').mono ?_;rintro e w1 ⟨rfl,hb1⟩;rw [HP.o])
   ·go_roundw
    case rel=>
     refine⟨k+1,by omega,by go_num,fun j hj h=> ?_,HB.o.trans (hb1.mono HB.o.size)⟩
     by_cases e:j=k
     ·subst e;exact HP.o
     ·exact HN.o j hj (by omega)
    case measure=>simp [intOf];omega
   ·go_ret
    exact⟨ret1 (fx_hit hlt HP.o (fun j hj h=>HN.o j hj h)).symm,HB.o.trans (hb1.mono HB.o.size)⟩
  ·go_wp2
   go_ret
   exact⟨ret1 (fx_miss (fun j hj=>HN.o j hj (by omega))).symm,HB.o⟩
end Go.Proofs.YtogalchclmmfgaaDoor
namespace Go.Proofs.YtogalchclmmfgaaDoor
open Go.RowKit
theorem fi_of_fx {α:Type} {p:α→Bool} {xs:List α} : (fx p xs<0→fi p xs=0∧decide (0≤fx p xs) =fok p xs)∧(0≤fx p xs→fx p xs=fi p xs∧true=fok p xs):=by
 unfold fx fok fi
 cases xs.findIdx? p with
 | none=>simp
 | some k=>simp;omega
theorem find_any (s:Sch) (t:ByteArray) (w:World) (hin:s.In w) :
  Calls Tryd.prog 22 #[.agg #[.slice s.th.ao s.tabs.length s.th.cap],.string t] w fun e w'=>e = .returned (.tuple #[.int .i64 (fi (named t) s.tabs),.bool (fok (named t) s.tabs)])∧Below w.heap.size w w':=by
 have hx:=fx_lt (p:=named t) (xs:=s.tabs)
 have hn:=hin.rt.len;have hin2:=hin.mono (belAA (.cells #[.slice s.th.ao s.tabs.length s.th.cap] 28) (.cells #[.string t] 9));have HF:=ai (fi_of_fx (p:=named t) (xs:=s.tabs))
 generalize hz:fx (named t) s.tabs=z at *;have HZ:=ai hz;clear hz
 go_enter Tryd.func22,Tryd.ntmps22;go_wp2_with (go_at_call 45;refine(tindex_any s t _ _ hin2 (by simp [go_sem])).mono ?_;rintro e w1 ⟨rfl,hb1⟩;rw [HZ.o])
 ·go_ret2
  exact⟨ret2 ⟨(HF.o.1 (by omega)).1.symm,(HF.o.1 (by omega)).2⟩,bel2 hb1⟩
 ·go_ret2
  exact⟨ret2 (HF.o.2 (by omega)),bel2 hb1⟩
end Go.Proofs.YtogalchclmmfgaaDoor
namespace Go.Proofs.YtogalchclmmfgaaDoor
open Go.RowKit
theorem region_tail {P:Program} {id:Nat} {Q:Exit→Act→World→Prop} {a:Act} {w:World} {l:List Oper} (n:Nat) (hm:P.follows .mixedOrders=true) (hB:Region.lexTailB .any l.toArray n=true)
  (h:wpStill P l.toArray w.drew (fun a'=>wpList P l.toArray Q (l.drop n) a' w.drew) (l.take n) a) : (Code.region id l.toArray true).wp P Q a w:=wp_region_still_tail n hm hB h
theorem mixed:Tryd.prog.follows .mixedOrders=true:=by kernel_rfl
end Go.Proofs.YtogalchclmmfgaaDoor
namespace Go.Proofs.YtogalchclmmfgaaDoor
open Go.RowKit
theorem szint: (Tryd.prog.info? 3).map (·.size) =some 1:=by kernel_rfl
theorem eq_of_all {α:Type} {a b:List α} (hl:a.length=b.length) (h: ∀j (ha:j<a.length) (hb:j<b.length),a[j] =b[j]) :a=b:=List.ext_getElem hl h
theorem ne_of_at {α:Type} {a b:List α} {j:Nat} (ha:j<a.length) (hb:j<b.length) (h:a[j]≠b[j]) :a≠b:=fun e=>h (by subst e;rfl)
theorem IL.ix {w:World} {x:IL} (hx:x.In w) {i:Nat} (hi:i<x.l.length) : ∀W,(Instr.indexAt 22 (.slice x.h.ao x.l.length x.h.cap) (.int .i64 (i:Int))).run Tryd.prog W = .ok (.pointer (some ⟨x.h.b,x.h.o+i,none⟩)) W:=by
 have:=hx.1.ix hi Tryd.underlying22 szint
 simpa using this
end Go.Proofs.YtogalchclmmfgaaDoor
namespace Go.Proofs.YtogalchclmmfgaaDoor
open Go.RowKit
theorem info3: (Tryd.prog.info? 3).map (fun i=>(i.zero,i.size,i.bytes)) =some (some (.int .i64 0),1,8):=by kernel_rfl
theorem il_mk {w:World} {base:Nat} {v:Value} {n:Nat} {xs:List Int} {e:TypeId} (h:w.ownsRow base e 1 v n (xs.flatMap icells)) (hw: ∀n∈xs,int64 n) : ∃r:IL,v = .slice r.h.ao r.l.length r.h.cap∧r.l=xs∧r.In w:=by
 obtain⟨hd,rfl,hr⟩:=own_row (size:=1) (cells:=icells) (fun _=>rfl) (by decide) h
 exact⟨⟨hd,xs⟩,rfl,rfl,hr,hw⟩
abbrev ctyp (c:Col) :List Value:= [.int .i64 c.typ]
theorem ctyp_icells (l:List Col) :l.flatMap ctyp= (l.map Col.typ).flatMap icells:=by
 induction l with
 | nil=>rfl
 | cons x l ih=>simp [List.flatMap_cons,ih]
theorem typs_wf {w:World} {x:Tab} (h:x.In w) : ∀n∈x.cols.map Col.typ,int64 n:=by
 intro n hn;obtain⟨c,hc,rfl⟩:=List.mem_map.1 hn;exact(h.cs c hc).2
end Go.Proofs.YtogalchclmmfgaaDoor
namespace Go.Proofs.YtogalchclmmfgaaDoor
open Go.RowKit
structure TapeIn (w:World) (b:Nat) (L:IL) (a:Nat) :Prop where
 lst:w.cell? ⟨b,0,none⟩ =some (.slice L.h.ao L.l.length L.h.cap)
 pos:w.cell? ⟨b,1,none⟩ =some (.int .i64 (a:Nat))
 fr:w.frozen? ⟨b,1,none⟩ =false
 row:L.In w
 ne:0<L.l.length→L.h.b≠b
theorem TapeIn.lt {w:World} {b a:Nat} {L:IL} (h:TapeIn w b L a) :b<w.heap.size:=World.block_lt_of_cell? w ⟨b,0,none⟩ h.lst
theorem TapeIn.mono {w w':World} {b a:Nat} {L:IL} (h:TapeIn w b L a) (hb:Below w.heap.size w w') :TapeIn w' b L a:=
 ⟨by rw [hb.cell (p:=⟨b,0,none⟩) h.lt];exact h.lst,by rw [hb.cell (p:=⟨b,1,none⟩) h.lt];exact h.pos,by rw [hb.frozen (p:=⟨b,1,none⟩) h.lt];exact h.fr,h.row.mono hb,h.ne⟩
def modn (x n:Int) :Int:=if x.tmod n<0 then x.tmod n+n else x.tmod n
theorem modn_ok {x n:Int} (hn:1≤n) :0≤modn x n∧modn x n<n:=by
 have h1:=Int.tmod_lt_of_pos x (show 0<n by omega)
 have h2:=Int.lt_tmod_of_pos x (show 0<n by omega)
 unfold modn
 split<;>omega
theorem row_grown {α:Type} {w w':World} {size b:Nat} {cells:α→List Value} {h:Hd} {xs:List α} (hr:Row w size cells h xs) (hg:w.grownBy w' (some b)) (hne:0<xs.length→h.b≠b) :Row w' size cells h xs:=by
 obtain⟨h1,h2,h3,h4⟩:=hr;refine⟨h1,h2,fun hp=>⟨(h3 hp).1,Nat.lt_of_lt_of_le (h3 hp).2 hg.size⟩,fun i hi j v hv=> ?_⟩
 have hp:0<xs.length:=by omega
 rw [World.cell?_of_block (w:=w) (a:=⟨h.b,_,none⟩) (hg.block h.b (h3 hp).2 (by simpa using hne hp))]
 exact h4 i hi j v hv
theorem tape_step {w:World} {b a:Nat} {L:IL} (h:TapeIn w b L a) (n:Nat) :TapeIn ((w.drewN n).setCell ⟨b,1,none⟩ (.int .i64 ((a:Int) +1))) b L (a+1)∧w.grownBy ((w.drewN n).setCell ⟨b,1,none⟩ (.int .i64 ((a:Int) +1))) (some b):=by
 have hg:w.grownBy ((w.drewN n).setCell ⟨b,1,none⟩ (.int .i64 ((a:Int) +1))) (some b):=
  ⟨rfl,rfl,rfl,by simp [World.drewN],fun k _ hk=>Below.heap_setCell _ _ _ _ (fun e=>hk (by rw [e]))⟩
 refine⟨⟨?_,?_,?_,⟨row_grown h.row.1 hg h.ne,h.row.2⟩,h.ne⟩,hg⟩
 ·have h0:=h.lst
  simp [go_sem,h0]
 ·have h1:=h.pos
  simp [go_sem,h1]
 ·have h1:=h.fr
  simp [go_sem,h1]
def IL.next (L:IL) (a:Nat) (n:Int) :Int:=if h:a<L.l.length then modn L.l[a] n else 0
theorem IL.next_ok (L:IL) (a:Nat) {n:Int} (hn:1≤n) :0≤L.next a n∧L.next a n<n:=by
 unfold IL.next
 split
 ·exact modn_ok hn
 ·omega
theorem next_any (w:World) (b a:Nat) (L:IL) (n:Int) (ht:TapeIn w b L a) (ha:a≤4611686018427387904) (hn1:1≤n) (hn:int64 n) :
  Calls Tryd.prog 10 #[.pointer (some ⟨b,0,none⟩),.int .i64 n] w fun e w'=>e = .returned (.int .i64 (L.next a n))∧TapeIn w' b L (a+1)∧w.grownBy w' (some b):=by
 have h0:=ht.lst;have h1:=ht.pos;have hf:=ht.fr;have hl:=ht.row.1.len;have HT:=ai ht;have hn2:=hn.2;clear ht hn;by_cases hlt:a<L.l.length
 ·have hlti: (a:Int) <L.l.length:=by omega
  have hix:=IL.ix HT.o.row hlt;have c0:=int_at HT.o.row.1 hlt;have hr1:=Int.tmod_lt_of_pos L.l[a] (show 0<n by omega)
  have hr2:=Int.lt_tmod_of_pos L.l[a] (show 0<n by omega)
  have hnx:L.next a n=if L.l[a].tmod n<0 then L.l[a].tmod n+n else L.l[a].tmod n:=by simp [IL.next,hlt,modn]
  go_enter Tryd.func10,Tryd.ntmps10;go_wp2
  go_quiet (fail)
  go_wp2
  go_quiet (fail)
  go_wp2
  ·go_ret
   rename_i _ hlt0
   refine⟨?_,tape_step HT.o _⟩
   rw [hnx,if_pos (by omega)]
   simp [go_sem]
  ·go_ret
   rename_i hge0
   refine⟨?_,tape_step HT.o _⟩
   rw [hnx,if_neg (by omega)]
   simp [go_sem]
 ·have hlti: ¬(a:Int) <L.l.length:=by omega
  have hnx:L.next a n=0:=by simp [IL.next,hlt]
  go_enter Tryd.func10,Tryd.ntmps10;go_wp2
  go_quiet (fail)
  go_wp2;go_ret
  refine⟨?_,tape_step HT.o _⟩
  rw [hnx];simp [go_sem]
end Go.Proofs.YtogalchclmmfgaaDoor
namespace Go
section
variable {P:Program} {ops:Array Oper} {Q:Exit→Act→World→Prop}
def upd (L:Nat→Bool) (i:Nat) :Nat→Bool:=fun j=>if j=i then true else L j
theorem ready_mem {md:Region.Mode} {listed:Array Bool} {i:Nat} (h:i∈Region.ready md ops listed) :
  ∃o,ops[i]? = some o∧listed.getD i true=false∧∀e∈o.after.toList,Region.binds md e=true→listed.getD e.on false=true:=by
 unfold Region.ready at h
 rw [List.mem_filter]at h;obtain⟨h1,h2⟩:=h;rw [Bool.and_eq_true]at h2;obtain⟨h3,h4⟩:=h2
 cases ho:ops[i]? with
 | none=>rw [ho]at h4;cases h4
 | some o=>
  rw [ho]at h4;simp only [Option.map_some,Option.getD_some,Array.all_eq_true']at h4;refine⟨o,rfl,by simpa using h3,fun e he hb=> ?_⟩
  have:=h4 e (by simpa using he)
  rw [hb]at this
  simpa using this
theorem ready_low {md:Region.Mode} {listed:Array Bool} (hlow: ∀(i:Nat) (o:Oper),ops[i]? = some o→∀e∈o.after.toList,e.on<i) (hr:Region.ready md ops listed = []) (hsz:listed.size=ops.size) :
  ∀i,i<ops.size→listed.getD i false=true:=by
 intro i
 induction i using Nat.strongRecOn with
 | _ i ih=>
 intro hi
 cases hl:listed.getD i false with
 | true=>rfl
 | false=>
  exfalso
  have hmem:i∈Region.ready md ops listed:=by
   unfold Region.ready
   rw [List.mem_filter];refine⟨List.mem_range.2 hi,?_⟩
   have ho:ops[i]? = some ops[i]:=Array.getElem?_eq_getElem hi;have h1:listed.getD i true=false:=by
    simp only [Array.getD,hsz,hi]at hl ⊢
    simpa using hl
   rw [ho,h1];simp only [Option.map_some,Option.getD_some,Bool.not_false,Bool.true_and,Array.all_eq_true'];intro e he;have h2:=hlow i _ ho e (by simpa using he)
   rw [ih e.on h2 (by omega)]
   simp
  rw [hr]at hmem
  cases hmem
theorem wp_region_inv {id:Nat} {a:Act} {w:World} (hm:P.follows .mixedOrders=true) (hng: ∀(i:Nat) (o:Oper),ops[i]? = some o→o.guard=none)
  (hlow: ∀(i:Nat) (o:Oper),ops[i]? = some o→∀e∈o.after.toList,e.on<i) (Inv: (Nat→Bool)→Act→World→Prop) (h0:Inv (fun _=>false) a w.drew)
  (hstep: ∀(i:Nat) (o:Oper) (L:Nat→Bool) (a:Act) (w:World),ops[i]? = some o→L i=false→(∀e∈o.after.toList,Region.binds .any e=true→L e.on=true)→Inv L a w→o.wp P a w (fun a' w'=>Inv (upd L i) a' w') Q)
  (hend: ∀(L:Nat→Bool) (a:Act) (w:World),(∀i,i<ops.size→L i=true)→Inv L a w→Q .normal a w) : (Code.region id ops true).wp P Q a w:=by
 refine wp_region_any hm ?_
 have key: ∀(fuel:Nat) (listed:Array Bool) (a:Act) (w:World),listed.size=ops.size→listed.toList.count false≤fuel→Inv (fun i=>listed.getD i false) a w→wpAny P .any ops Q fuel listed a w:=by
  intro fuel
  induction fuel with
  | zero=>
   intro listed a w hsz hc hI;have hall: ∀i,i<ops.size→listed.getD i false=true:=by
    intro i hi
    cases hl:listed.getD i false with
    | true=>rfl
    | false=>
     have hi':i<listed.size:=by omega
     have hm:false∈listed.toList:=by
      have:listed[i] =false:=by simpa [Array.getD,hi']using hl
      rw [←this];exact Array.getElem_mem_toList hi'
     have:=List.count_pos_iff.2 hm;omega
   refine⟨?_,hend _ a w hall hI⟩
   cases hr:Region.ready .any ops listed with
   | nil=>rfl
   | cons i r=>
    obtain⟨o,ho,h1,_⟩:=ready_mem (i:=i) (by rw [hr];simp)
    have hi:=(Array.getElem?_eq_some_iff.1 ho).1;have h2:=hall i hi;have hi':i<listed.size:=by omega
    simp [Array.getD,hi']at h1 h2;rw [h1]at h2
    cases h2
  | succ fuel ih=>
   intro listed a w hsz hc hI;refine⟨fun hr=>hend _ a w (ready_low hlow hr hsz) hI,fun i hi=> ?_⟩
   obtain⟨o,ho,h1,h2⟩:=ready_mem hi;have his:=(Array.getElem?_eq_some_iff.1 ho).1;have hi':i<listed.size:=by omega
   have hlf:listed.getD i false=false:=by
    simp [Array.getD,hi']at h1 ⊢;exact h1
   refine wpOp_mono (K:=fun a' w'=>Inv (upd (fun i=>listed.getD i false) i) a' w') (fun a' w' h=> ?_) ?_
   ·refine ih _ a' w' (by simpa using hsz) ?_ ?_
    ·have hlc:listed[i] =false:=by simpa [Array.getD,hi']using hlf
     rw [Array.toList_setIfInBounds];have h3:=List.count_set (l:=listed.toList) (a:=true) (b:=false) (i:=i) (by simpa using hi')
     rw [h3];have h4:listed.toList[i]'(by simpa using hi') =false:=by simpa using hlc
     rw [h4]
     show(List.count false listed.toList - 1) +0≤fuel
     omega
    ·have e: (fun j=>(listed.setIfInBounds i true).getD j false) =upd (fun j=>listed.getD j false) i:=by
      funext j
      unfold upd
      by_cases hj:j=i
      ·subst hj
       simp [Array.getD,hi']
      ·rw [if_neg hj]
       simp only [Array.getD,Array.size_setIfInBounds];by_cases hjs:j<listed.size
       ·rw [dif_pos hjs,dif_pos hjs]
        simp only [Array.getInternal_eq_getElem];rw [Array.getElem_setIfInBounds_ne (hj:=hjs) (h:=fun h=>hj h.symm)]
       ·rw [dif_neg hjs,dif_neg hjs]
     rw [e];exact h
   ·unfold wpOp
    rw [ho];have hw:Region.wanted o (yielded ops a.tmps) =true:=by simp [Region.wanted,hng i o ho]
    show if Region.wanted o (yielded ops a.tmps) =true then _ else _
    rw [if_pos hw];exact .inl (hstep i o _ a w ho hlf h2 hI)
 exact key ops.size _ a w.drew (by simp) (by simp) (by
  have e: (fun i=>(Array.replicate ops.size false).getD i false) =fun _=>false:=by
   funext i
   simp [Array.getD]
  rw [e];exact h0)
def regionOk (ops:Array Oper) :Bool:=(List.range ops.size).all fun i=>((ops[i]?).map fun o=>o.guard.isNone && o.after.toList.all (fun e=>decide (e.on<i))).getD true
theorem regionOk_at (h:regionOk ops=true) {i:Nat} {o:Oper} (ho:ops[i]? = some o) :o.guard=none∧∀e∈o.after.toList,e.on<i:=by
 unfold regionOk at h
 have h1:=List.all_eq_true.1 h i (List.mem_range.2 (Array.getElem?_eq_some_iff.1 ho).1);rw [ho]at h1;simp only [Option.map_some,Option.getD_some,Bool.and_eq_true]at h1;refine⟨by simpa using h1.1,fun e he=> ?_⟩
 have:=List.all_eq_true.1 h1.2 e he
 simpa using this
theorem wp_region_ok {id:Nat} {a:Act} {w:World} (hm:P.follows .mixedOrders=true) (hok:regionOk ops=true) (Inv: (Nat→Bool)→Act→World→Prop) (h0:Inv (fun _=>false) a w.drew)
  (hstep: ∀(i:Nat) (o:Oper) (L:Nat→Bool) (a:Act) (w:World),ops[i]? = some o→L i=false→(∀e∈o.after.toList,Region.binds .any e=true→L e.on=true)→Inv L a w→o.wp P a w (fun a' w'=>Inv (upd L i) a' w') Q)
  (hend: ∀(L:Nat→Bool) (a:Act) (w:World),(∀i,i<ops.size→L i=true)→Inv L a w→Q .normal a w) : (Code.region id ops true).wp P Q a w:=
 wp_region_inv hm (fun _ _ ho=>(regionOk_at hok ho).1) (fun _ _ ho=>(regionOk_at hok ho).2) Inv h0 hstep hend
end
end Go

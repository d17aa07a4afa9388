/- schema.Find, ref03.Find, schema.Column, ref03.Column, Target: what they return, for any schema that lies in the world. -/
import Derived.Test.YtiijaaohphokcaaGreatDoorProg
import Derived.Test.YtiijaaohphokcaaGreatDoorDataK
import Derived.WalkLawsBesides
import Derived.KernelRfl
import Derived.StillTailTactics
import Derived.Deep.QuietTactic
import Derived.BigQuiet
set_option maxRecDepth 100000
set_option maxHeartbeats 16000000
namespace Go.Proofs.YtiijaaohphokcaaGreatDoor
open Go.RowKit
def fi {α:Type} (p:α→Bool) (xs:List α) :Int:=((xs.findIdx? p).getD 0:Nat)
def fok {α:Type} (p:α→Bool) (xs:List α) :Bool:=(xs.findIdx? p).isSome
theorem findIdx_hit {α:Type} {p:α→Bool} {xs:List α} {k:Nat} (hk:k<xs.length) (hp:p xs[k] =true) (hn: ∀j (hj:j<xs.length),j<k→p xs[j] =false) :xs.findIdx? p=some k:=by
 rw [List.findIdx?_eq_some_iff_getElem];exact⟨hk,hp,fun j hj=>by rw [hn j (by omega) hj];simp⟩
theorem findIdx_miss {α:Type} {p:α→Bool} {xs:List α} (hn: ∀j (hj:j<xs.length),p xs[j] =false) :xs.findIdx? p=none:=by
 rw [List.findIdx?_eq_none_iff];intro x hx;obtain⟨i,hi,rfl⟩:=List.getElem_of_mem hx;rw [hn i hi]
theorem fi_hit {α:Type} {p:α→Bool} {xs:List α} {k:Nat} (hk:k<xs.length) (hp:p xs[k] =true) (hn: ∀j (hj:j<xs.length),j<k→p xs[j] =false) :fi p xs=k∧fok p xs=true:=by
 unfold fi fok;rw [findIdx_hit hk hp hn];simp
theorem fi_miss {α:Type} {p:α→Bool} {xs:List α} (hn: ∀j (hj:j<xs.length),p xs[j] =false) :fi p xs=0∧fok p xs=false:=by
 unfold fi fok;rw [findIdx_miss hn];simp
def named (t:ByteArray) (x:Tab) :Bool:=x.name.toList == t.toList
def cnamed (t:ByteArray) (x:Col) :Bool:=x.name.toList == t.toList
theorem sz22: (Tryz.prog.info? 78).map (·.size) =some 6:=by kernel_rfl
theorem sz30: (Tryz.prog.info? 72).map (·.size) =some 3:=by kernel_rfl
theorem rfind_any (s:Sch) (t:ByteArray) (w:World) (hin:s.In w) :
  Calls Tryz.prog 114 #[.agg #[.slice s.th.ao s.tabs.length s.th.cap],.string t] w fun e w'=>e = .returned (.tuple #[.int .i64 (fi (named t) s.tabs),.bool (fok (named t) s.tabs)])∧Below w.heap.size w w':=by
 have hn:=hin.rt.len
 go_enter Tryz.func114,Tryz.ntmps114;go_wp2;go_loop [6] (fun i=>∃k:Nat,k≤s.tabs.length∧i = .int .i64 k∧∀j (hj:j<s.tabs.length),j<k→named t s.tabs[j] =false) (fun i=>s.tabs.length - (intOf i).toNat)
 case atStart=>exact⟨0,Nat.zero_le _,rfl,fun j _ h=>absurd h (by omega)⟩
 case round=>
  obtain⟨k,hk,rfl,hno⟩:=hrel;have HN:=ai hno;clear hno;by_cases hlt:k<s.tabs.length
  ·have hix:=hin.rt.ix hlt Tryz.underlying25 sz22
   have hb:=hin.rt.blk hlt;obtain⟨c0,_⟩:=tab_at hin.rt hlt;by_cases hp: (s.tabs[k].name.toList == t.toList) =true
   ·go_wp2
    go_ret2
    exact⟨ret2 ⟨(fi_hit hlt hp (fun j hj h=>HN.o j hj h)).1.symm,(fi_hit hlt hp (fun j hj h=>HN.o j hj h)).2.symm⟩,(Below.refl _ _).alloc (Nat.le_refl _) _⟩
   ·have hp': (s.tabs[k].name.toList == t.toList) =false:=by simpa using hp
    clear hp;go_wp2;go_round
    case rel=>
     refine⟨k+1,by omega,by go_num,fun j hj h=> ?_⟩
     by_cases e:j=k
     ·subst e;exact hp'
     ·exact HN.o j hj (by omega)
    case measure=>simp [intOf];omega
  ·go_wp2
   go_ret2
   exact⟨ret2 ⟨(fi_miss (fun j hj=>HN.o j hj (by omega))).1.symm,(fi_miss (fun j hj=>HN.o j hj (by omega))).2.symm⟩,(Below.refl _ _).alloc (Nat.le_refl _) _⟩
def fx {α:Type} (p:α→Bool) (xs:List α) :Int:=if fok p xs then fi p xs else -1
theorem fx_hit {α:Type} {p:α→Bool} {xs:List α} {k:Nat} (hk:k<xs.length) (hp:p xs[k] =true) (hn: ∀j (hj:j<xs.length),j<k→p xs[j] =false) :fx p xs=k:=by
 unfold fx;rw [if_pos (fi_hit hk hp hn).2,(fi_hit hk hp hn).1]
theorem fx_miss {α:Type} {p:α→Bool} {xs:List α} (hn: ∀j (hj:j<xs.length),p xs[j] =false) :fx p xs = -1:=by
 unfold fx;rw [if_neg (by rw [(fi_miss hn).2];simp)]
theorem fx_lt {α:Type} {p:α→Bool} {xs:List α} : -1≤fx p xs∧fx p xs<xs.length∨fx p xs = -1:=by
 by_cases h: ∀j (hj:j<xs.length),p xs[j] =false
 ·exact .inr (fx_miss h)
 ·left
  unfold fx fok fi
  cases hf:xs.findIdx? p with
  | none=>simp;omega
  | some k=>
   have:=(List.findIdx?_eq_some_iff_getElem.1 hf).1;simp;omega
theorem tclo_any (x:Tab) (t:ByteArray) (c:Nat) (w:World) (hc:w.cell? ⟨c,0,none⟩ =some (.string t)) :
  Calls Tryz.prog 149 #[.agg #[.string x.name,.slice x.ch.ao x.cols.length x.ch.cap,.slice x.prim.h.ao x.prim.l.length x.prim.h.cap,.slice x.uh.ao x.uniqs.length x.uh.cap,.slice x.fh.ao x.fors.length x.fh.cap,.slice x.kh.ao x.checks.length x.kh.cap],.pointer (some ⟨c,0,none⟩)] w
   fun e w'=>e = .returned (.bool (named t x))∧Below w.heap.size w w':=by
 have hlt:c<w.heap.size:=World.block_lt_of_cell? w ⟨c,0,none⟩ hc
 go_enter Tryz.func149,Tryz.ntmps149;go_wp2;go_ret
 exact⟨rfl,(Below.refl _ _).alloc (Nat.le_refl _) _⟩
theorem tindex_any (s:Sch) (t:ByteArray) (c:Nat) (w:World) (hin:s.In w) (hc:w.cell? ⟨c,0,none⟩ =some (.string t)) :
  Calls Tryz.prog 148 #[.slice s.th.ao s.tabs.length s.th.cap,.func (.func 149) #[] #[.pointer (some ⟨c,0,none⟩)]] w
   fun e w'=>e = .returned (.int .i64 (fx (named t) s.tabs))∧Below w.heap.size w w':=by
 have hlc:c<w.heap.size:=World.block_lt_of_cell? w ⟨c,0,none⟩ hc;have hn:=hin.rt.len
 go_enter Tryz.func148,Tryz.ntmps148;go_wp2;go_loopw [5,8] (fun _ i wr=>∃k:Nat,k≤s.tabs.length∧i = .int .i64 k∧(∀j (hj:j<s.tabs.length),j<k→named t s.tabs[j] =false)∧Below w.heap.size w wr) (fun _ i _=>s.tabs.length - (intOf i).toNat)
 case atStart=>exact⟨0,Nat.zero_le _,rfl,fun j _ h=>absurd h (by omega),Below.refl _ _⟩
 case round=>
  obtain⟨k,hk,rfl,hno,hbw⟩:=hrel;have HN:=ai hno;have HB:=ai hbw;have hin':=hin.mono hbw;have hc':wr.cell? ⟨c,0,none⟩ =some (.string t):=by rw [hbw.cell hlc];exact hc
  clear hno hbw hc;by_cases hlt:k<s.tabs.length
  ·have hix:=hin'.rt.ix hlt Tryz.underlying25 sz22
   obtain⟨c0,c1,c2,c3,c4,c5⟩:=tab_at hin'.rt hlt
   cases hp:named t s.tabs[k]
   all_goals
    have HP:=ai hp;clear hp;go_wp2_with (go_at_call 149;refine(tclo_any s.tabs[k] t c _ hc').mono ?_;rintro e w1 ⟨rfl,hb1⟩;rw [HP.o])
   ·go_roundw
    case rel=>
     refine⟨k+1,by omega,by go_num,fun j hj h=> ?_,HB.o.trans (hb1.mono HB.o.size)⟩
     by_cases e:j=k
     ·subst e;exact HP.o
     ·exact HN.o j hj (by omega)
    case measure=>simp [intOf];omega
   ·go_ret
    exact⟨ret1 (fx_hit hlt HP.o (fun j hj h=>HN.o j hj h)).symm,HB.o.trans (hb1.mono HB.o.size)⟩
  ·go_wp2
   go_ret
   exact⟨ret1 (fx_miss (fun j hj=>HN.o j hj (by omega))).symm,HB.o⟩
end Go.Proofs.YtiijaaohphokcaaGreatDoor
/- schema.Find and Column, Target. -/
namespace Go.Proofs.YtiijaaohphokcaaGreatDoor
open Go.RowKit
theorem fi_of_fx {α:Type} {p:α→Bool} {xs:List α} : (fx p xs<0→fi p xs=0∧decide (0≤fx p xs) =fok p xs)∧(0≤fx p xs→fx p xs=fi p xs∧true=fok p xs):=by
 unfold fx fok fi
 cases xs.findIdx? p with
 | none=>simp
 | some k=>simp;omega
theorem find_any (s:Sch) (t:ByteArray) (w:World) (hin:s.In w) :
  Calls Tryz.prog 105 #[.agg #[.slice s.th.ao s.tabs.length s.th.cap],.string t] w fun e w'=>e = .returned (.tuple #[.int .i64 (fi (named t) s.tabs),.bool (fok (named t) s.tabs)])∧Below w.heap.size w w':=by
 have hx:=fx_lt (p:=named t) (xs:=s.tabs)
 have hn:=hin.rt.len;have hin2:=hin.mono (belAA (.cells #[.slice s.th.ao s.tabs.length s.th.cap] 27) (.cells #[.string t] 9));have HF:=ai (fi_of_fx (p:=named t) (xs:=s.tabs))
 generalize hz:fx (named t) s.tabs=z at *;have HZ:=ai hz;clear hz
 go_enter Tryz.func105,Tryz.ntmps105;go_wp2_with (go_at_call 148;refine(tindex_any s t _ _ hin2 (by simp [go_sem])).mono ?_;rintro e w1 ⟨rfl,hb1⟩;rw [HZ.o])
 ·go_ret2
  exact⟨ret2 ⟨(HF.o.1 (by omega)).1.symm,(HF.o.1 (by omega)).2⟩,bel2 hb1⟩
 ·go_ret2
  exact⟨ret2 (HF.o.2 (by omega)),bel2 hb1⟩
theorem cclo_any (x:Col) (t:ByteArray) (c:Nat) (w:World) (hc:w.cell? ⟨c,0,none⟩ =some (.string t)) :
  Calls Tryz.prog 179 #[.agg #[.string x.name,.int .i64 x.typ,.bool x.nul],.pointer (some ⟨c,0,none⟩)] w
   fun e w'=>e = .returned (.bool (cnamed t x))∧Below w.heap.size w w':=by
 have hlt:c<w.heap.size:=World.block_lt_of_cell? w ⟨c,0,none⟩ hc
 go_enter Tryz.func179,Tryz.ntmps179;go_wp2;go_ret
 exact⟨rfl,belA _⟩
theorem cindex_any (ch:Hd) (cs:List Col) (t:ByteArray) (c:Nat) (w:World) (hin:Row w 3 Col.cells ch cs) (hc:w.cell? ⟨c,0,none⟩ =some (.string t)) :
  Calls Tryz.prog 178 #[.slice ch.ao cs.length ch.cap,.func (.func 179) #[] #[.pointer (some ⟨c,0,none⟩)]] w
   fun e w'=>e = .returned (.int .i64 (fx (cnamed t) cs))∧Below w.heap.size w w':=by
 have hlc:c<w.heap.size:=World.block_lt_of_cell? w ⟨c,0,none⟩ hc;have hn:=hin.len
 go_enter Tryz.func178,Tryz.ntmps178;go_wp2;go_loopw [5,8] (fun _ i wr=>∃k:Nat,k≤cs.length∧i = .int .i64 k∧(∀j (hj:j<cs.length),j<k→cnamed t cs[j] =false)∧Below w.heap.size w wr) (fun _ i _=>cs.length - (intOf i).toNat)
 case atStart=>exact⟨0,Nat.zero_le _,rfl,fun j _ h=>absurd h (by omega),Below.refl _ _⟩
 case round=>
  obtain⟨k,hk,rfl,hno,hbw⟩:=hrel;have HN:=ai hno;have HB:=ai hbw;have hin':=hin.mono hbw;have hc':wr.cell? ⟨c,0,none⟩ =some (.string t):=by rw [hbw.cell hlc];exact hc
  clear hno hbw hc;by_cases hlt:k<cs.length
  ·have hix:=hin'.ix hlt Tryz.underlying73 sz30
   obtain⟨c0,c1,c2⟩:=col_at hin' hlt
   cases hp:cnamed t cs[k]
   all_goals
    have HP:=ai hp;clear hp;go_wp2_with (go_at_call 179;refine(cclo_any cs[k] t c _ hc').mono ?_;rintro e w1 ⟨rfl,hb1⟩;rw [HP.o])
   ·go_roundw
    case rel=>
     refine⟨k+1,by omega,by go_num,fun j hj h=> ?_,HB.o.trans (hb1.mono HB.o.size)⟩
     by_cases e:j=k
     ·subst e;exact HP.o
     ·exact HN.o j hj (by omega)
    case measure=>simp [intOf];omega
   ·go_ret
    exact⟨ret1 (fx_hit hlt HP.o (fun j hj h=>HN.o j hj h)).symm,HB.o.trans (hb1.mono HB.o.size)⟩
  ·go_wp2
   go_ret
   exact⟨ret1 (fx_miss (fun j hj=>HN.o j hj (by omega))).symm,HB.o⟩
theorem column_any (x:Tab) (t:ByteArray) (w:World) (hin:x.In w) :
  Calls Tryz.prog 150 #[.agg #[.string x.name,.slice x.ch.ao x.cols.length x.ch.cap,.slice x.prim.h.ao x.prim.l.length x.prim.h.cap,.slice x.uh.ao x.uniqs.length x.uh.cap,.slice x.fh.ao x.fors.length x.fh.cap,.slice x.kh.ao x.checks.length x.kh.cap],.string t] w
   fun e w'=>e = .returned (.tuple #[.int .i64 (fi (cnamed t) x.cols),.bool (fok (cnamed t) x.cols)])∧Below w.heap.size w w':=by
 have hx:=fx_lt (p:=cnamed t) (xs:=x.cols)
 have hn:=hin.rc.len;have hin2:=hin.rc.mono (belAA (.cells #[.string x.name,.slice x.ch.ao x.cols.length x.ch.cap,.slice x.prim.h.ao x.prim.l.length x.prim.h.cap,.slice x.uh.ao x.uniqs.length x.uh.cap,.slice x.fh.ao x.fors.length x.fh.cap,.slice x.kh.ao x.checks.length x.kh.cap] 78) (.cells #[.string t] 9));have HF:=ai (fi_of_fx (p:=cnamed t) (xs:=x.cols))
 generalize hz:fx (cnamed t) x.cols=z at *;have HZ:=ai hz;clear hz
 go_enter Tryz.func150,Tryz.ntmps150;go_wp2_with (go_at_call 178;refine(cindex_any x.ch x.cols t _ _ hin2 (by simp [go_sem])).mono ?_;rintro e w1 ⟨rfl,hb1⟩;rw [HZ.o])
 ·go_ret2
  exact⟨ret2 ⟨(HF.o.1 (by omega)).1.symm,(HF.o.1 (by omega)).2⟩,bel2 hb1⟩
 ·go_ret2
  exact⟨ret2 (HF.o.2 (by omega)),bel2 hb1⟩
theorem rcolumn_any (x:Tab) (t:ByteArray) (w:World) (hin:x.In w) :
  Calls Tryz.prog 162 #[.agg #[.string x.name,.slice x.ch.ao x.cols.length x.ch.cap,.slice x.prim.h.ao x.prim.l.length x.prim.h.cap,.slice x.uh.ao x.uniqs.length x.uh.cap,.slice x.fh.ao x.fors.length x.fh.cap,.slice x.kh.ao x.checks.length x.kh.cap],.string t] w
   fun e w'=>e = .returned (.tuple #[.int .i64 (fi (cnamed t) x.cols),.bool (fok (cnamed t) x.cols)])∧Below w.heap.size w w':=by
 have hn:=hin.rc.len
 go_enter Tryz.func162,Tryz.ntmps162;go_wp2;go_loop [6] (fun i=>∃k:Nat,k≤x.cols.length∧i = .int .i64 k∧∀j (hj:j<x.cols.length),j<k→cnamed t x.cols[j] =false) (fun i=>x.cols.length - (intOf i).toNat)
 case atStart=>exact⟨0,Nat.zero_le _,rfl,fun j _ h=>absurd h (by omega)⟩
 case round=>
  obtain⟨k,hk,rfl,hno⟩:=hrel;have HN:=ai hno;clear hno;by_cases hlt:k<x.cols.length
  ·have hix:=hin.rc.ix hlt Tryz.underlying73 sz30
   have hb:=hin.rc.blk hlt;obtain⟨c0,_⟩:=col_at hin.rc hlt;by_cases hp: (x.cols[k].name.toList == t.toList) =true
   ·go_wp2
    go_ret2
    exact⟨ret2 ⟨(fi_hit hlt hp (fun j hj h=>HN.o j hj h)).1.symm,(fi_hit hlt hp (fun j hj h=>HN.o j hj h)).2.symm⟩,belA _⟩
   ·have hp': (x.cols[k].name.toList == t.toList) =false:=by simpa using hp
    clear hp;go_wp2;go_round
    case rel=>
     refine⟨k+1,by omega,by go_num,fun j hj h=> ?_⟩
     by_cases e:j=k
     ·subst e;exact hp'
     ·exact HN.o j hj (by omega)
    case measure=>simp [intOf];omega
  ·go_wp2
   go_ret2
   exact⟨ret2 ⟨(fi_miss (fun j hj=>HN.o j hj (by omega))).1.symm,(fi_miss (fun j hj=>HN.o j hj (by omega))).2.symm⟩,belA _⟩
end Go.Proofs.YtiijaaohphokcaaGreatDoor
/- Laws on regions that draw their order: the world behind the draw written as the walk writes it. -/
namespace Go.Proofs.YtiijaaohphokcaaGreatDoor
open Go.RowKit
theorem mixed:Tryz.prog.follows .mixedOrders=true:=by kernel_rfl
end Go.Proofs.YtiijaaohphokcaaGreatDoor
/- law03.same: whether two lists of numbers are equal. -/
namespace Go.Proofs.YtiijaaohphokcaaGreatDoor
open Go.RowKit
theorem szint: (Tryz.prog.info? 3).map (·.size) =some 1:=by kernel_rfl
theorem IL.ix {w:World} {x:IL} (hx:x.In w) {i:Nat} (hi:i<x.l.length) : ∀W,(Instr.indexAt 22 (.slice x.h.ao x.l.length x.h.cap) (.int .i64 (i:Int))).run Tryz.prog W = .ok (.pointer (some ⟨x.h.b,x.h.o+i,none⟩)) W:=by
 have:=hx.1.ix hi Tryz.underlying22 szint
 simpa using this
end Go.Proofs.YtiijaaohphokcaaGreatDoor
/- schema.Types, ref03.Types: the types of a table's columns, in a list of the call's own. -/
namespace Go.Proofs.YtiijaaohphokcaaGreatDoor
open Go.RowKit
theorem info3: (Tryz.prog.info? 3).map (fun i=>(i.zero,i.size,i.bytes)) =some (some (.int .i64 0),1,8):=by kernel_rfl
theorem il_mk {w:World} {base:Nat} {v:Value} {n:Nat} {xs:List Int} {e:TypeId} (h:w.ownsRow base e 1 v n (xs.flatMap icells)) (hw: ∀n∈xs,int64 n) : ∃r:IL,v = .slice r.h.ao r.l.length r.h.cap∧r.l=xs∧r.In w:=by
 obtain⟨hd,rfl,hr⟩:=own_row (size:=1) (cells:=icells) (fun _=>rfl) (by decide) h
 exact⟨⟨hd,xs⟩,rfl,rfl,hr,hw⟩
abbrev ctyp (c:Col) :List Value:= [.int .i64 c.typ]
end Go.Proofs.YtiijaaohphokcaaGreatDoor

/- value.Valid, ref01.Valid at any value. -/
import Derived.Test.YtiijaaohphokcaaGreatDoorG03
import Derived.Test.YtiijaaohphokcaaGreatDoorG02
import Derived.Deep.RegionHeld3
import Derived.Deep.QuietTactic
import Derived.BigQuiet
set_option maxRecDepth 100000
set_option maxHeartbeats 16000000
namespace Go.Proofs.YtiijaaohphokcaaGreatDoor
open Go.RowKit
noncomputable def validV (v:V) :Bool:=if v.kind=0 then (v.num == 0) && (v.text.toList == []) else if v.kind=1 then inR v.num && (v.text.toList == []) else if v.kind=2 then in01 v.num && (v.text.toList == []) else if v.kind=3 then (v.num == 0) && txt v.text else false
theorem vval_0 (n:Int) (s:ByteArray) (w:World) :
  Calls Tryz.prog 92 #[.agg #[.int .i64 0,.int .i64 n,.string s]] w fun e w'=>e = .returned (.bool ((n == 0) && (s.toList == [])))∧Below w.heap.size w w':=by
 go_enter Tryz.func92,Tryz.ntmps92;go_wp2
 all_goals go_ret
 all_goals first
  | exact⟨retb (by simp [*];try omega),belA _⟩
  | exact⟨retb (by simp [*];try omega),belAA _ _⟩
  | exact⟨retb (by simp [*];try omega),Below.refl _ _⟩
  | trace_state
theorem vval_1 (n:Int) (s:ByteArray) (w:World) :
  Calls Tryz.prog 92 #[.agg #[.int .i64 1,.int .i64 n,.string s]] w fun e w'=>e = .returned (.bool (inR n && (s.toList == [])))∧Below w.heap.size w w':=by
 go_enter Tryz.func92,Tryz.ntmps92;go_wp2
 all_goals go_ret
 all_goals first
  | exact⟨retb (by simp [*,inR];try omega),belA _⟩
  | exact⟨retb (by simp [*,inR];try omega),belAA _ _⟩
  | exact⟨retb (by simp [*,inR];try omega),Below.refl _ _⟩
  | trace_state
theorem vval_2 (n:Int) (s:ByteArray) (w:World) :
  Calls Tryz.prog 92 #[.agg #[.int .i64 2,.int .i64 n,.string s]] w fun e w'=>e = .returned (.bool (in01 n && (s.toList == [])))∧Below w.heap.size w w':=by
 by_cases h0:n=0
 ·subst h0
  rw [show in01 0=true from rfl]
  go_enter Tryz.func92,Tryz.ntmps92;go_wp2
  all_goals go_ret
  all_goals first
   | exact⟨retb (by simp [*];try omega),belA _⟩
   | exact⟨retb (by simp [*];try omega),belAA _ _⟩
   | exact⟨retb (by simp [*];try omega),Below.refl _ _⟩
   | trace_state
 by_cases h1:n=1
 ·subst h1
  rw [show in01 1=true from rfl]
  go_enter Tryz.func92,Tryz.ntmps92;go_wp2
  all_goals go_ret
  all_goals first
   | exact⟨retb (by simp [*];try omega),belA _⟩
   | exact⟨retb (by simp [*];try omega),belAA _ _⟩
   | exact⟨retb (by simp [*];try omega),Below.refl _ _⟩
   | trace_state
 ·have b0: (n == 0) =false:=beq_eq_false_iff_ne.2 h0
  have b1: (n == 1) =false:=beq_eq_false_iff_ne.2 h1;have c0: (n != 0) =true:=bne_iff_ne.2 h0;have c1: (n != 1) =true:=bne_iff_ne.2 h1;rw [show in01 n=false from decide_eq_false (by omega)]
  clear h0 h1
  go_enter Tryz.func92,Tryz.ntmps92;go_wp2
  all_goals go_ret
  all_goals first
   | exact⟨retb (by simp [*];try omega),belA _⟩
   | exact⟨retb (by simp [*];try omega),belAA _ _⟩
   | exact⟨retb (by simp [*];try omega),Below.refl _ _⟩
   | trace_state
theorem vval_3 (n:Int) (s:ByteArray) (w:World) (hs:s.size≤maxLen) :
  Calls Tryz.prog 92 #[.agg #[.int .i64 3,.int .i64 n,.string s]] w fun e w'=>e = .returned (.bool ((n == 0) && txt s))∧Below w.heap.size w w':=by
 by_cases h0:n=0
 ·subst h0
  exact(vvalid_text s w hs).mono fun e w' ⟨h,hb⟩=>⟨by rw [h];rfl,hb⟩
 ·have b0: (n == 0) =false:=beq_eq_false_iff_ne.2 h0
  have c0: (n != 0) =true:=bne_iff_ne.2 h0;clear h0
  go_enter Tryz.func92,Tryz.ntmps92;go_wp2
  all_goals go_ret
  all_goals first
   | exact⟨retb (by simp [*];try omega),belA _⟩
   | exact⟨retb (by simp [*];try omega),belAA _ _⟩
   | exact⟨retb (by simp [*];try omega),Below.refl _ _⟩
   | trace_state
theorem vval_no (k n:Int) (s:ByteArray) (w:World) (h0:k≠0) (h1:k≠1) (h2:k≠2) (h3:k≠3) :
  Calls Tryz.prog 92 #[.agg #[.int .i64 k,.int .i64 n,.string s]] w fun e w'=>e = .returned (.bool false)∧Below w.heap.size w w':=by
 have b0: (k == 0) =false:=beq_eq_false_iff_ne.2 h0;have b1: (k == 1) =false:=beq_eq_false_iff_ne.2 h1;have b2: (k == 2) =false:=beq_eq_false_iff_ne.2 h2;have b3: (k == 3) =false:=beq_eq_false_iff_ne.2 h3
 go_enter Tryz.func92,Tryz.ntmps92;go_wp2
 all_goals go_ret
 all_goals first
  | exact⟨retb (by simp [*];try omega),belA _⟩
  | exact⟨retb (by simp [*];try omega),belAA _ _⟩
  | exact⟨retb (by simp [*];try omega),Below.refl _ _⟩
  | trace_state
theorem vval_any (v:V) (hv:v.wf) (w:World) :
  Calls Tryz.prog 92 #[.agg #[.int .i64 v.kind,.int .i64 v.num,.string v.text]] w fun e w'=>e = .returned (.bool (validV v))∧Below w.heap.size w w':=by
 obtain⟨k,n,s⟩:=v;have hs:s.size≤maxLen:=hv.2.2;by_cases h0:k=0
 ·subst h0;exact vval_0 n s w
 by_cases h1:k=1
 ·subst h1;exact vval_1 n s w
 by_cases h2:k=2
 ·subst h2;exact vval_2 n s w
 by_cases h3:k=3
 ·subst h3;exact vval_3 n s w hs
 ·have e:validV ⟨k,n,s⟩ =false:=by unfold validV;rw [if_neg h0,if_neg h1,if_neg h2,if_neg h3]
  rw [e];exact vval_no k n s w h0 h1 h2 h3
theorem rval_0 (n:Int) (s:ByteArray) (w:World) :
  Calls Tryz.prog 119 #[.agg #[.int .i64 0,.int .i64 n,.string s]] w fun e w'=>e = .returned (.bool ((n == 0) && (s.toList == [])))∧Below w.heap.size w w':=by
 go_enter Tryz.func119,Tryz.ntmps119;go_wp2
 all_goals go_ret
 all_goals first
  | exact⟨retb (by simp [*];try omega),belA _⟩
  | exact⟨retb (by simp [*];try omega),belAA _ _⟩
  | exact⟨retb (by simp [*];try omega),Below.refl _ _⟩
  | trace_state
theorem rval_1 (n:Int) (s:ByteArray) (w:World) :
  Calls Tryz.prog 119 #[.agg #[.int .i64 1,.int .i64 n,.string s]] w fun e w'=>e = .returned (.bool (inR n && (s.toList == [])))∧Below w.heap.size w w':=by
 go_enter Tryz.func119,Tryz.ntmps119;go_wp2
 all_goals go_ret
 all_goals first
  | exact⟨retb (by simp [*,inR];try omega),belA _⟩
  | exact⟨retb (by simp [*,inR];try omega),belAA _ _⟩
  | exact⟨retb (by simp [*,inR];try omega),Below.refl _ _⟩
  | trace_state
theorem rval_2 (n:Int) (s:ByteArray) (w:World) :
  Calls Tryz.prog 119 #[.agg #[.int .i64 2,.int .i64 n,.string s]] w fun e w'=>e = .returned (.bool (in01 n && (s.toList == [])))∧Below w.heap.size w w':=by
 by_cases h0:n=0
 ·subst h0
  rw [show in01 0=true from rfl]
  go_enter Tryz.func119,Tryz.ntmps119;go_wp2
  all_goals go_ret
  all_goals first
   | exact⟨retb (by simp [*];try omega),belA _⟩
   | exact⟨retb (by simp [*];try omega),belAA _ _⟩
   | exact⟨retb (by simp [*];try omega),Below.refl _ _⟩
   | trace_state
 by_cases h1:n=1
 ·subst h1
  rw [show in01 1=true from rfl]
  go_enter Tryz.func119,Tryz.ntmps119;go_wp2
  all_goals go_ret
  all_goals first
   | exact⟨retb (by simp [*];try omega),belA _⟩
   | exact⟨retb (by simp [*];try omega),belAA _ _⟩
   | exact⟨retb (by simp [*];try omega),Below.refl _ _⟩
   | trace_state
 ·have b0: (n == 0) =false:=beq_eq_false_iff_ne.2 h0
  have b1: (n == 1) =false:=beq_eq_false_iff_ne.2 h1;have c0: (n != 0) =true:=bne_iff_ne.2 h0;have c1: (n != 1) =true:=bne_iff_ne.2 h1;rw [show in01 n=false from decide_eq_false (by omega)]
  clear h0 h1
  go_enter Tryz.func119,Tryz.ntmps119;go_wp2
  all_goals go_ret
  all_goals first
   | exact⟨retb (by simp [*];try omega),belA _⟩
   | exact⟨retb (by simp [*];try omega),belAA _ _⟩
   | exact⟨retb (by simp [*];try omega),Below.refl _ _⟩
   | trace_state
theorem rval_3 (n:Int) (s:ByteArray) (w:World) (hs:s.size≤maxLen) :
  Calls Tryz.prog 119 #[.agg #[.int .i64 3,.int .i64 n,.string s]] w fun e w'=>e = .returned (.bool ((n == 0) && txt s))∧Below w.heap.size w w':=by
 by_cases h0:n=0
 ·subst h0
  exact(rvalid_text s w hs).mono fun e w' ⟨h,hb⟩=>⟨by rw [h];rfl,hb⟩
 ·have b0: (n == 0) =false:=beq_eq_false_iff_ne.2 h0
  have c0: (n != 0) =true:=bne_iff_ne.2 h0;clear h0
  go_enter Tryz.func119,Tryz.ntmps119;go_wp2
  all_goals go_ret
  all_goals first
   | exact⟨retb (by simp [*];try omega),belA _⟩
   | exact⟨retb (by simp [*];try omega),belAA _ _⟩
   | exact⟨retb (by simp [*];try omega),Below.refl _ _⟩
   | trace_state
theorem rval_no (k n:Int) (s:ByteArray) (w:World) (h0:k≠0) (h1:k≠1) (h2:k≠2) (h3:k≠3) :
  Calls Tryz.prog 119 #[.agg #[.int .i64 k,.int .i64 n,.string s]] w fun e w'=>e = .returned (.bool false)∧Below w.heap.size w w':=by
 have b0: (k == 0) =false:=beq_eq_false_iff_ne.2 h0;have b1: (k == 1) =false:=beq_eq_false_iff_ne.2 h1;have b2: (k == 2) =false:=beq_eq_false_iff_ne.2 h2;have b3: (k == 3) =false:=beq_eq_false_iff_ne.2 h3
 go_enter Tryz.func119,Tryz.ntmps119;go_wp2
 all_goals go_ret
 all_goals first
  | exact⟨retb (by simp [*];try omega),belA _⟩
  | exact⟨retb (by simp [*];try omega),belAA _ _⟩
  | exact⟨retb (by simp [*];try omega),Below.refl _ _⟩
  | trace_state
theorem rval_any (v:V) (hv:v.wf) (w:World) :
  Calls Tryz.prog 119 #[.agg #[.int .i64 v.kind,.int .i64 v.num,.string v.text]] w fun e w'=>e = .returned (.bool (validV v))∧Below w.heap.size w w':=by
 obtain⟨k,n,s⟩:=v;have hs:s.size≤maxLen:=hv.2.2;by_cases h0:k=0
 ·subst h0;exact rval_0 n s w
 by_cases h1:k=1
 ·subst h1;exact rval_1 n s w
 by_cases h2:k=2
 ·subst h2;exact rval_2 n s w
 by_cases h3:k=3
 ·subst h3;exact rval_3 n s w hs
 ·have e:validV ⟨k,n,s⟩ =false:=by unfold validV;rw [if_neg h0,if_neg h1,if_neg h2,if_neg h3]
  rw [e];exact rval_no k n s w h0 h1 h2 h3
end Go.Proofs.YtiijaaohphokcaaGreatDoor
/- value.Same; small things on boxes. -/
namespace Go.Proofs.YtiijaaohphokcaaGreatDoor
open Go.RowKit
theorem szil: (Tryz.prog.info? 3).map (·.size) =some 1:=by kernel_rfl
def nulV:V:=⟨0,0,⟨#[]⟩⟩
def sameB (a b:V) :Bool:=(a.kind == b.kind) && (a.num == b.num) && (a.text.toList == b.text.toList)
theorem set3 (w:World) (g:Nat) (a b c:Value) :w.grownBy (((w.setCell ⟨g,0,none⟩ a).setCell ⟨g,1,none⟩ b).setCell ⟨g,2,none⟩ c) (some g):=((gb_set _ _ _ _).trans (gb_set _ _ _ _)).trans (gb_set _ _ _ _)
theorem vsame_any (a b:V) (w:World) :Calls Tryz.prog 130 #[.agg #[.int .i64 a.kind,.int .i64 a.num,.string a.text],.agg #[.int .i64 b.kind,.int .i64 b.num,.string b.text]] w fun e w'=>e = .returned (.bool (sameB a b))∧Below w.heap.size w w':=by
 go_enter Tryz.func130,Tryz.ntmps130;go_wp2
 all_goals go_ret
 all_goals exact⟨retb (by unfold sameB;simp [*]),belAA _ _⟩
end Go.Proofs.YtiijaaohphokcaaGreatDoor
/- Conjunctive queries in a world. -/
namespace Go.Proofs.YtiijaaohphokcaaGreatDoor
open Go.RowKit
abbrev Tm.cells:Tm V→List Value
 | .v n=> [.int .i64 (n:Nat),.int .i64 0,.int .i64 0,.string ⟨#[]⟩]
 | .c k=> [.int .i64 (-1),.int .i64 k.kind,.int .i64 k.num,.string k.text]
def Tm.nr:Tm V→Int
 | .v n=>(n:Int)
 | .c _=> -1
def Tm.val:Tm V→V
 | .v _=>nulV
 | .c k=>k
theorem Tm.cells_eq (t:Tm V) :t.cells = [.int .i64 t.nr,.int .i64 t.val.kind,.int .i64 t.val.num,.string t.val.text]:=by cases t<;>rfl
theorem Tm.cells_len (t:Tm V) :t.cells.length=4:=by cases t<;>rfl
def Tm.wf:Tm V→Prop
 | .v n=>n≤1000
 | .c k=>k.wf
theorem Tm.ext' {s t:Tm V} (h1:s.nr=t.nr) (h2:s.val=t.val) :s=t:=by
 cases s<;>cases t
 ·have: ((_:Nat) :Int) = ((_:Nat) :Int):=h1
  rw [Int.ofNat.inj this]
 ·have: ((_:Nat) :Int) = -1:=h1;omega
 ·have: (-1:Int) = ((_:Nat) :Int):=h1;omega
 ·have:_=_:=h2;exact congrArg Tm.c this
structure TL where
 h:Hd
 l:List (Tm V)
abbrev TL.cells (x:TL) :List Value:= [.slice x.h.ao x.l.length x.h.cap]
def Hd.ge (h:Hd) (n B:Nat) :Prop:=0<n→B≤h.b
structure TL.In (w:World) (B:Nat) (x:TL) :Prop where
 row:Row w 4 Tm.cells x.h x.l
 wf: ∀t∈x.l,t.wf
 ge:x.h.ge x.l.length B
structure Li where
 tab:Nat
 sl:TL
abbrev Li.cells (x:Li) :List Value:= [.int .i64 (x.tab:Nat),.slice x.sl.h.ao x.sl.l.length x.sl.h.cap]
def Li.lt (x:Li) :Lt V:=(x.tab,x.sl.l)
structure Cq where
 vars:Nat
 lh:Hd
 lits:List Li
 head:TL
abbrev Cq.cells (q:Cq) :List Value:= [.int .i64 (q.vars:Nat),.slice q.lh.ao q.lits.length q.lh.cap,.slice q.head.h.ao q.head.l.length q.head.h.cap]
def Cq.cj (q:Cq) :Cj V:=⟨q.lits.map Li.lt,q.head.l⟩
structure Cq.In (w:World) (B:Nat) (q:Cq) :Prop where
 row:Row w 2 Li.cells q.lh q.lits
 ge:q.lh.ge q.lits.length B
 sl: ∀l∈q.lits,l.sl.In w B
 tb: ∀l∈q.lits,l.tab≤1000
 hd:q.head.In w B
 vr:q.vars≤1000
section
variable {w w':World} {B:Nat}
theorem TL.In.mono {x:TL} (h:x.In w B) (hb:Below w.heap.size w w') :x.In w' B:=⟨h.row.mono hb,h.wf,h.ge⟩
theorem Cq.In.mono {q:Cq} (h:q.In w B) (hb:Below w.heap.size w w') :q.In w' B:=⟨h.row.mono hb,h.ge,fun l hl=>(h.sl l hl).mono hb,h.tb,h.hd.mono hb,h.vr⟩
theorem row_grownX {α:Type} {size b:Nat} {cells:α→List Value} {h:Hd} {xs:List α} (hr:Row w size cells h xs) (hg:w.grownBy w' (some b)) (hge:h.ge xs.length B) (hb:b<B) :Row w' size cells h xs:=by
 obtain⟨h1,h2,h3,h4⟩:=hr;refine⟨h1,h2,fun hp=>⟨(h3 hp).1,Nat.lt_of_lt_of_le (h3 hp).2 hg.size⟩,fun i hi j v hv=> ?_⟩
 have hp:0<xs.length:=by omega
 rw [World.cell?_of_block (w:=w) (a:=⟨h.b,_,none⟩) (hg.block h.b (h3 hp).2 (by have:=hge hp;simp;omega))]
 exact h4 i hi j v hv
theorem TL.In.grown {x:TL} {b:Nat} (h:x.In w B) (hg:w.grownBy w' (some b)) (hb:b<B) :x.In w' B:=⟨row_grownX h.row hg h.ge hb,h.wf,h.ge⟩
theorem Cq.In.grown {q:Cq} {b:Nat} (h:q.In w B) (hg:w.grownBy w' (some b)) (hb:b<B) :q.In w' B:=⟨row_grownX h.row hg h.ge hb,h.ge,fun l hl=>(h.sl l hl).grown hg hb,h.tb,h.hd.grown hg hb,h.vr⟩
theorem Hd.ge.le {h:Hd} {n B B':Nat} (k:h.ge n B) (hb:B'≤B) :h.ge n B':=fun hp=>Nat.le_trans hb (k hp)
theorem TL.In.le {x:TL} {B':Nat} (h:x.In w B) (hb:B'≤B) :x.In w B':=⟨h.row,h.wf,h.ge.le hb⟩
theorem Cq.In.le {q:Cq} {B':Nat} (h:q.In w B) (hb:B'≤B) :q.In w B':=⟨h.row,h.ge.le hb,fun l hl=>(h.sl l hl).le hb,h.tb,h.hd.le hb,h.vr⟩
theorem tm_at {h:Hd} {i:Nat} {xs:List (Tm V)} (hr:Row w 4 Tm.cells h xs) (hi:i<xs.length) :w.cell? ⟨h.b,h.o+i*4,none⟩ =some (.int .i64 xs[i].nr)∧w.cell? ⟨h.b,h.o+i*4+1,none⟩ =some (.int .i64 xs[i].val.kind)∧w.cell? ⟨h.b,h.o+i*4+2,none⟩ =some (.int .i64 xs[i].val.num)∧w.cell? ⟨h.b,h.o+i*4+3,none⟩ =some (.string xs[i].val.text):=
 ⟨hr.2.2.2 i hi 0 _ (by rw [Tm.cells_eq];rfl),hr.2.2.2 i hi 1 _ (by rw [Tm.cells_eq];rfl),hr.2.2.2 i hi 2 _ (by rw [Tm.cells_eq];rfl),hr.2.2.2 i hi 3 _ (by rw [Tm.cells_eq];rfl)⟩
theorem li_at {h:Hd} {i:Nat} {xs:List Li} (hr:Row w 2 Li.cells h xs) (hi:i<xs.length) :w.cell? ⟨h.b,h.o+i*2,none⟩ =some (.int .i64 (xs[i].tab:Nat))∧w.cell? ⟨h.b,h.o+i*2+1,none⟩ =some (.slice xs[i].sl.h.ao xs[i].sl.l.length xs[i].sl.h.cap):=
 ⟨hr.2.2.2 i hi 0 _ rfl,hr.2.2.2 i hi 1 _ rfl⟩
end
theorem sameB_iff (a b:V) :sameB a b=true↔a=b:=by
 obtain⟨ak,an,at_⟩:=a;obtain⟨bk,bn,bt⟩:=b
 unfold sameB
 simp only [Bool.and_eq_true,beq_iff_eq,V.mk.injEq,ByteArray.toList_eq]
 constructor
 ·rintro ⟨⟨rfl,rfl⟩,h⟩
  exact⟨rfl,rfl,ByteArray.ext (Array.toList_inj.1 h)⟩
 ·rintro ⟨rfl,rfl,rfl⟩
  exact⟨⟨rfl,rfl⟩,rfl⟩
def tmEq (s t:Tm V) :Bool:=(s.nr == t.nr) && sameB s.val t.val
theorem tmEq_iff (s t:Tm V) :tmEq s t=true↔s=t:=by
 unfold tmEq
 rw [Bool.and_eq_true,beq_iff_eq,sameB_iff];exact⟨fun h=>Tm.ext' h.1 h.2,fun h=>by subst h;exact⟨rfl,rfl⟩⟩
theorem tmEq_v {s t:Tm V} (h:s.nr=t.nr) (hn:s.nr≠ -1) :tmEq s t=true:=by
 cases s with
 | c k=>exact absurd rfl hn
 | v n=>
  cases t with
  | c k=>exact absurd h hn
  | v m=>exact(tmEq_iff _ _).2 (Tm.ext' h rfl)
end Go.Proofs.YtiijaaohphokcaaGreatDoor
/- conjunctive.equal; its closure; the search for a slot. -/
namespace Go.Proofs.YtiijaaohphokcaaGreatDoor
open Go.RowKit
abbrev Tm.agg (t:Tm V) :Value:=.agg #[.int .i64 t.nr,.int .i64 t.val.kind,.int .i64 t.val.num,.string t.val.text]
theorem equal_any (s t:Tm V) (w:World) :Calls Tryz.prog 125 #[.agg #[.int .i64 s.nr,.int .i64 s.val.kind,.int .i64 s.val.num,.string s.val.text],.agg #[.int .i64 t.nr,.int .i64 t.val.kind,.int .i64 t.val.num,.string t.val.text]] w fun e w'=>e = .returned (.bool (tmEq s t))∧Below w.heap.size w w':=by
 have HE:=ai (show tmEq s t= ((s.nr == t.nr) && sameB s.val t.val)from rfl)
 have HV:=ai (fun h1 h2=> @tmEq_v s t h1 h2)
 generalize tmEq s t=r at *;generalize s.nr=n at *;generalize t.nr=m at *;generalize s.val=a at *;generalize t.val=b at *;by_cases h:n=m
 ·have hb: (n == m) =true:=beq_iff_eq.2 h
  by_cases h1:n = -1
  ·have hr:=HE.o
   rw [hb,Bool.true_and]at hr;subst hr;have hn: (n != -1) =false:=by rw [h1];rfl
   have HB0:=ai (belAA (w:=w) (.cells #[.int .i64 n,.int .i64 a.kind,.int .i64 a.num,.string a.text] 83) (.cells #[.int .i64 m,.int .i64 b.kind,.int .i64 b.num,.string b.text] 83))
   clear h h1 HE HV
   go_enter Tryz.func125,Tryz.ntmps125;go_wp2_with (go_at_call 130;refine(vsame_any a b _).mono ?_;rintro e x ⟨rfl,hb⟩;have HB:=ai (bT HB0.o hb);clear hb)
   go_ret
   exact⟨rfl,HB.o⟩
  ·have hr:=HV.o h h1
   subst hr;have hn: (n != -1) =true:=bne_iff_ne.2 h1;clear h h1 HE HV
   go_enter Tryz.func125,Tryz.ntmps125;go_wp2;go_ret
   exact⟨rfl,belAA _ _⟩
 ·have hb: (n == m) =false:=beq_eq_false_iff_ne.2 h
  have hr:=HE.o;rw [hb,Bool.false_and]at hr;subst hr;clear h HE HV
  go_enter Tryz.func125,Tryz.ntmps125;go_wp2;go_ret
  exact⟨rfl,belAA _ _⟩
end Go.Proofs.YtiijaaohphokcaaGreatDoor

/- A part of the proof of AlgebraMade. -/
import Derived.Test.YtogalchclmmfgaaDoorP13
import Derived.Test.YtogalchclmmfgaaDoorP14
import Derived.Test.YtogalchclmmfgaaDoorP15
import Derived.Test.YtogalchclmmfgaaDoorP08
import Derived.Test.YtogalchclmmfgaaDoorP06
set_option maxRecDepth 100000
set_option maxHeartbeats 16000000
namespace Go.Proofs.YtogalchclmmfgaaDoor
open Go.RowKit
theorem expr_base {d:Int} (hd:d≤1) :ExprAt 2 1 d:=fun w b a L r k hk ht ha hr hrn hrb=>expr_one hd w b a L r k hk ht ha hr hrn hrb
theorem expr_step {d:Int} (hd:2≤d∧d≤3) {n N:Nat} (hE:ExprAt n N (d - 1)) :ExprAt (10+5*n) (1+4*N) d:=by
 intro w b a L r k hk ht ha hr hrn hrb;have h3:=isT_ne hk;have r2:=L.next_ok (a+1) (n:=4) (by decide)
 have r3:=L.next_ok (a+1+1+1) (n:=6) (by decide)
 by_cases c1:L.next a 4=0
 ·exact expr_pick hd hE w b a L r k hk ht ha hr hrn hrb _ rfl c1
 by_cases c2:L.next (a+1) 4=0
 ·exact expr_case hd hE w b a L r k hk ht ha hr hrn hrb _ rfl _ rfl c1 c2
 by_cases c3:L.next (a+1) 4=1
 ·exact expr_coal hd hE w b a L r k hk ht ha hr hrn hrb _ rfl _ rfl c1 c3
 have c4:2≤L.next (a+1) 4:=by omega
 by_cases k3:k=3
 ·exact expr_cat hd hE w b a L r k hk ht ha hr hrn hrb _ rfl _ rfl c1 c4 k3
 by_cases k1:k=1
 ·by_cases c5:L.next (a+1) 4=2
  ·exact expr_add hd hE w b a L r k hk ht ha hr hrn hrb _ rfl _ rfl _ rfl c1 c5 k1
  have c6:L.next (a+1) 4=3:=by omega
  by_cases c7:L.next (a+1+1) 2=0
  ·exact expr_neg hd hE w b a L r k hk ht ha hr hrn hrb _ rfl _ rfl _ rfl c1 c6 c7 k1
  ·exact expr_len hd hE w b a L r k hk ht ha hr hrn hrb _ rfl _ rfl _ rfl c1 c6 c7 k1
 have k2:k=2:=by omega
 by_cases d0:L.next (a+1+1+1) 6=0
 ·exact expr_and hd hE w b a L r k hk ht ha hr hrn hrb _ rfl _ rfl _ rfl _ rfl _ rfl c1 c4 k2 d0
 by_cases d1:L.next (a+1+1+1) 6=1
 ·exact expr_not hd hE w b a L r k hk ht ha hr hrn hrb _ rfl _ rfl _ rfl _ rfl c1 c4 k2 d1
 by_cases d2:L.next (a+1+1+1) 6=2
 ·exact expr_isnull hd hE w b a L r k hk ht ha hr hrn hrb _ rfl _ rfl _ rfl _ rfl c1 c4 k2 d2
 by_cases d3:L.next (a+1+1+1) 6=3
 ·exact expr_in hd hE w b a L r k hk ht ha hr hrn hrb _ rfl _ rfl _ rfl _ rfl c1 c4 k2 d3
 ·exact expr_cmp hd hE w b a L r k hk ht ha hr hrn hrb _ rfl _ rfl _ rfl _ rfl _ rfl c1 c4 k2 (by omega)
theorem expr_two:ExprAt 20 5 2:=expr_step (n:=2) (N:=1) ⟨by decide,by decide⟩ (expr_base (by decide))
theorem expr_any3:ExprAt 110 21 3:=expr_step (n:=20) (N:=5) ⟨by decide,by decide⟩ expr_two
end Go.Proofs.YtogalchclmmfgaaDoor
namespace Go.Proofs.YtogalchclmmfgaaDoor
open Go.RowKit
theorem rkids_any (op:Int) (n:Nat) (w:World) :Calls Tryd.prog 106 #[.int .i64 op,.int .i64 (n:Nat)] w fun e w'=>e = .returned (.bool (kidsOk op n))∧Below w.heap.size w w':=by
 by_cases h5:op≤5
 ·have HR:=ai (show kidsOk op n=decide (n=0) by unfold kidsOk;rw [if_pos h5])
  go_enter Tryd.func106,Tryd.ntmps106;go_wp2
  all_goals go_ret
  all_goals exact⟨retb (by rw [HR.o];first|rfl| (rw [Bool.eq_iff_iff];simp;try omega)),Below.refl _ _⟩
 by_cases h11:op=11
 ·subst h11
  have HR:=ai (show kidsOk 11 n=decide (n=1) by simp [kidsOk])
  go_enter Tryd.func106,Tryd.ntmps106;go_wp2
  all_goals go_ret
  all_goals exact⟨retb (by rw [HR.o];first|rfl| (rw [Bool.eq_iff_iff];simp;try omega)),Below.refl _ _⟩
 by_cases h13:op=13
 ·subst h13
  have HR:=ai (show kidsOk 13 n=decide (n=1) by simp [kidsOk])
  go_enter Tryd.func106,Tryd.ntmps106;go_wp2
  all_goals go_ret
  all_goals exact⟨retb (by rw [HR.o];first|rfl| (rw [Bool.eq_iff_iff];simp;try omega)),Below.refl _ _⟩
 by_cases h21:op=21
 ·subst h21
  have HR:=ai (show kidsOk 21 n=decide (n=1) by simp [kidsOk])
  go_enter Tryd.func106,Tryd.ntmps106;go_wp2
  all_goals go_ret
  all_goals exact⟨retb (by rw [HR.o];first|rfl| (rw [Bool.eq_iff_iff];simp;try omega)),Below.refl _ _⟩
 by_cases h24:op=24
 ·subst h24
  have HR:=ai (show kidsOk 24 n=decide (n=1) by simp [kidsOk])
  go_enter Tryd.func106,Tryd.ntmps106;go_wp2
  all_goals go_ret
  all_goals exact⟨retb (by rw [HR.o];first|rfl| (rw [Bool.eq_iff_iff];simp;try omega)),Below.refl _ _⟩
 by_cases h25:op=25
 ·subst h25
  have HR:=ai (show kidsOk 25 n=decide (n=1) by simp [kidsOk])
  go_enter Tryd.func106,Tryd.ntmps106;go_wp2
  all_goals go_ret
  all_goals exact⟨retb (by rw [HR.o];first|rfl| (rw [Bool.eq_iff_iff];simp;try omega)),Below.refl _ _⟩
 by_cases h26:op=26
 ·subst h26
  have HR:=ai (show kidsOk 26 n=decide (n=3) by simp [kidsOk])
  go_enter Tryd.func106,Tryd.ntmps106;go_wp2
  all_goals go_ret
  all_goals exact⟨retb (by rw [HR.o];first|rfl| (rw [Bool.eq_iff_iff];simp;try omega)),Below.refl _ _⟩
 by_cases h28:op=28
 ·subst h28
  have HR:=ai (show kidsOk 28 n=decide (2≤n) by simp [kidsOk])
  go_enter Tryd.func106,Tryd.ntmps106;go_wp2
  all_goals go_ret
  all_goals exact⟨retb (by rw [HR.o];first|rfl| (rw [Bool.eq_iff_iff];simp;try omega)),Below.refl _ _⟩
 have HR:=ai (show kidsOk op n=decide (n=2) by unfold kidsOk;rw [if_neg h5,if_neg (by omega),if_neg h26,if_neg h28])
 have b11: (op == 11) =false:=by simpa using h11
 have b13: (op == 13) =false:=by simpa using h13
 have b21: (op == 21) =false:=by simpa using h21
 have b24: (op == 24) =false:=by simpa using h24
 have b25: (op == 25) =false:=by simpa using h25
 have b26: (op == 26) =false:=by simpa using h26
 have b28: (op == 28) =false:=by simpa using h28
 go_enter Tryd.func106,Tryd.ntmps106;go_wp2
 all_goals go_ret
 all_goals exact⟨retb (by rw [HR.o];first|rfl| (rw [Bool.eq_iff_iff];simp;try omega)),Below.refl _ _⟩
theorem rall_any (l:IL) (t:Int) (w:World) (hin:l.In w) :Calls Tryd.prog 121 #[.slice l.h.ao l.l.length l.h.cap,.int .i64 t] w fun e w'=>e = .returned (.bool (alla t l.l))∧Below w.heap.size w w':=by
 have hn:=hin.1.len
 go_enter Tryd.func121,Tryd.ntmps121;go_wp2;go_loopw [5] (fun i wr=>∃k:Nat,k≤l.l.length∧i = .int .i64 k∧(∀j (hj:j<l.l.length),j<k→l.l[j] =t)∧wr=w) (fun i _=>l.l.length - (intOf i).toNat)
 case atStart=>exact⟨0,Nat.zero_le _,rfl,fun j _ h=>absurd h (by omega),rfl⟩
 case round=>
  obtain⟨k,hk,rfl,hno,rfl⟩:=hrel;have HN:=ai hno;clear hno;by_cases hlt:k<l.l.length
  ·have hix:=IL.ix hin hlt
   have c0:=int_at hin.1 hlt;by_cases he:l.l[k] =t
   ·have HEQ:=ai he
    have hb: (l.l[k] == t) =true:=by simpa using he
    clear he;go_wp2;go_roundw
    case rel=>
     refine⟨k+1,by omega,by go_num,fun j hj h=> ?_,trivial⟩
     by_cases e:j=k
     ·subst e;exact HEQ.o
     ·exact HN.o j hj (by omega)
    case measure=>simp [intOf];omega
   ·have HR:=ai (show alla t l.l=false by unfold alla;rw [List.all_eq_false];exact⟨l.l[k],List.getElem_mem hlt,by simpa using he⟩)
    have hb: (l.l[k] == t) =false:=by simpa using he
    clear he;go_wp2;go_ret
    exact⟨retb (by rw [HR.o]),Below.refl _ _⟩
  ·have HR:=ai (show alla t l.l=true by
    unfold alla;rw [List.all_eq_true]
    intro x hx;obtain⟨j,hj,rfl⟩:=List.getElem_of_mem hx
    simpa using HN.o j hj (by omega))
   go_wp2;go_ret
   exact⟨retb (by rw [HR.o]),Below.refl _ _⟩
theorem rplain_1 (typ num:Int) (text:ByteArray) (col:Int) (ko:Option Addr) (kl kc:Nat) (w:World) :
  Calls Tryd.prog 105 #[.agg #[.int .i64 1,.int .i64 typ,.int .i64 num,.string text,.int .i64 col,.slice ko kl kc]] w fun e w'=>e = .returned (.bool (decide (1≤typ∧typ≤3) && (num == 0) && (text.toList == []) && (col == 0)))∧Below w.heap.size w w':=by
 go_enter Tryd.func105,Tryd.ntmps105;go_wp2
 all_goals go_ret
 all_goals first
  | exact⟨retb (by simp [*];try omega),belAA _ _⟩
  | exact⟨retb (by simp [*];try omega),bel_set HB.o⟩
  | exact⟨retb (by simp [*];try omega),bel2 HB.o⟩
  | trace_state
theorem rplain_2 (typ num:Int) (text:ByteArray) (col:Int) (ko:Option Addr) (kl kc:Nat) (w:World) :
  Calls Tryd.prog 105 #[.agg #[.int .i64 2,.int .i64 typ,.int .i64 num,.string text,.int .i64 col,.slice ko kl kc]] w fun e w'=>e = .returned (.bool (inR num && (typ == 0) && (text.toList == []) && (col == 0)))∧Below w.heap.size w w':=by
 go_enter Tryd.func105,Tryd.ntmps105;go_wp2
 all_goals go_ret
 all_goals first
  | exact⟨retb (by simp [*,inR];try omega),belAA _ _⟩
  | exact⟨retb (by simp [*,inR];try omega),bel_set HB.o⟩
  | exact⟨retb (by simp [*,inR];try omega),bel2 HB.o⟩
  | trace_state
theorem rplain_3 (typ num:Int) (text:ByteArray) (col:Int) (ko:Option Addr) (kl kc:Nat) (w:World) :
  Calls Tryd.prog 105 #[.agg #[.int .i64 3,.int .i64 typ,.int .i64 num,.string text,.int .i64 col,.slice ko kl kc]] w fun e w'=>e = .returned (.bool (in01 num && (typ == 0) && (text.toList == []) && (col == 0)))∧Below w.heap.size w w':=by
 by_cases h0:num=0
 ·subst h0
  rw [show in01 0=true from rfl]
  go_enter Tryd.func105,Tryd.ntmps105;go_wp2
  all_goals go_ret
  all_goals exact⟨retb (by simp [*]),belAA _ _⟩
 by_cases h1:num=1
 ·subst h1
  rw [show in01 1=true from rfl]
  go_enter Tryd.func105,Tryd.ntmps105;go_wp2
  all_goals go_ret
  all_goals exact⟨retb (by simp [*]),belAA _ _⟩
 ·have b0: (num != 0) =true:=by simpa using h0
  have b1: (num != 1) =true:=by simpa using h1
  rw [show in01 num=false from decide_eq_false (by omega)]
  clear h0 h1
  go_enter Tryd.func105,Tryd.ntmps105;go_wp2
  all_goals go_ret
  all_goals exact⟨retb (by simp [*]),belAA _ _⟩
theorem rplain_4 (typ num:Int) (text:ByteArray) (col:Int) (ko:Option Addr) (kl kc:Nat) (w:World) (ht:text.size≤maxLen) :
  Calls Tryd.prog 105 #[.agg #[.int .i64 4,.int .i64 typ,.int .i64 num,.string text,.int .i64 col,.slice ko kl kc]] w fun e w'=>e = .returned (.bool (txt text && (typ == 0) && (num == 0) && (col == 0)))∧Below w.heap.size w w':=by
 have htx: ∃b,txt text=b:=⟨_,rfl⟩;obtain⟨b,hb0⟩:=htx;have HTX:=ai hb0;rw [hb0];clear hb0
 cases b
 all_goals go_enter Tryd.func105,Tryd.ntmps105
 all_goals go_wp2_with (go_at_call 97;refine(rvalid_text _ _ ht).mono ?_;rintro e w1 ⟨rfl,hb⟩;rw [HTX.o];have HB:=ai hb;have a1:=(box1 hb).cell (j:=1) rfl;have a0:=(box1 hb).cell (j:=0) rfl;have a2:=(box1 hb).cell (j:=2) rfl;have a3:=(box1 hb).cell (j:=3) rfl;have a4:=(box1 hb).cell (j:=4) rfl;have b3:=box2 hb;have y1:=b3.cell (j:=1) rfl;have y2:=b3.cell (j:=2) rfl;have y3:=b3.cell (j:=3) rfl;have y4:=b3.cell (j:=4) rfl;have f3:=b3.fr 3;clear hb b3)
 all_goals go_ret
 all_goals first
  | exact⟨retb (by simp [*];try omega),belAA _ _⟩
  | exact⟨retb (by simp [*];try omega),bel_set HB.o⟩
  | exact⟨retb (by simp [*];try omega),bel2 HB.o⟩
  | trace_state
theorem rplain_5 (typ num:Int) (text:ByteArray) (col:Int) (ko:Option Addr) (kl kc:Nat) (w:World) :
  Calls Tryd.prog 105 #[.agg #[.int .i64 5,.int .i64 typ,.int .i64 num,.string text,.int .i64 col,.slice ko kl kc]] w fun e w'=>e = .returned (.bool ((typ == 0) && (num == 0) && (text.toList == [])))∧Below w.heap.size w w':=by
 go_enter Tryd.func105,Tryd.ntmps105;go_wp2
 all_goals go_ret
 all_goals first
  | exact⟨retb (by simp [*];try omega),belAA _ _⟩
  | exact⟨retb (by simp [*];try omega),bel_set HB.o⟩
  | exact⟨retb (by simp [*];try omega),bel2 HB.o⟩
  | trace_state
theorem rplain_oi (op typ num:Int) (text:ByteArray) (col:Int) (ko:Option Addr) (kl kc:Nat) (w:World) (h1: (op == 1) =false) (h2: (op == 2) =false) (h3: (op == 3) =false) (h4: (op == 4) =false) (h5: (op == 5) =false) (hlo:1≤op) (hhi:op≤28) :
  Calls Tryd.prog 105 #[.agg #[.int .i64 op,.int .i64 typ,.int .i64 num,.string text,.int .i64 col,.slice ko kl kc]] w fun e w'=>e = .returned (.bool ((typ == 0) && (num == 0) && (text.toList == []) && (col == 0)))∧Below w.heap.size w w':=by
 go_enter Tryd.func105,Tryd.ntmps105;go_wp2
 all_goals go_ret
 all_goals first
  | exact⟨retb (by simp [*];try omega),belAA _ _⟩
  | exact⟨retb (by simp [*];try omega),bel_set HB.o⟩
  | exact⟨retb (by simp [*];try omega),bel2 HB.o⟩
  | trace_state
theorem rplain_oo (op typ num:Int) (text:ByteArray) (col:Int) (ko:Option Addr) (kl kc:Nat) (w:World) (h1: (op == 1) =false) (h2: (op == 2) =false) (h3: (op == 3) =false) (h4: (op == 4) =false) (h5: (op == 5) =false) (ho:op<1∨28<op) :
  Calls Tryd.prog 105 #[.agg #[.int .i64 op,.int .i64 typ,.int .i64 num,.string text,.int .i64 col,.slice ko kl kc]] w fun e w'=>e = .returned (.bool false)∧Below w.heap.size w w':=by
 by_cases hlo:1≤op
 ·have hhi: ¬op≤28:=by omega
  clear ho
  go_enter Tryd.func105,Tryd.ntmps105;go_wp2;go_ret
  exact⟨rfl,belAA _ _⟩
 ·clear ho
  go_enter Tryd.func105,Tryd.ntmps105;go_wp2;go_ret
  exact⟨rfl,belAA _ _⟩
theorem rplain_v (op typ num:Int) (text:ByteArray) (col:Int) (ko:Option Addr) (kl kc:Nat) (w:World) (ht:text.size≤maxLen) :
  Calls Tryd.prog 105 #[.agg #[.int .i64 op,.int .i64 typ,.int .i64 num,.string text,.int .i64 col,.slice ko kl kc]] w fun r w'=>r = .returned (.bool (decide (1≤op∧op≤28) && plainE op typ num text col))∧Below w.heap.size w w':=by
 unfold plainE
 by_cases h1:op=1
 ·rw [h1];exact rplain_1 _ _ _ _ _ _ _ _
 by_cases h2:op=2
 ·rw [h2];exact rplain_2 _ _ _ _ _ _ _ _
 by_cases h3:op=3
 ·rw [h3];exact rplain_3 _ _ _ _ _ _ _ _
 by_cases h4:op=4
 ·rw [h4];exact rplain_4 _ _ _ _ _ _ _ _ ht
 by_cases h5:op=5
 ·rw [h5];exact rplain_5 _ _ _ _ _ _ _ _
 rw [if_neg h1,if_neg h2,if_neg h3,if_neg h4,if_neg h5];by_cases hr:1≤op∧op≤28
 ·rw [decide_eq_true hr,Bool.true_and]
  exact rplain_oi _ _ _ _ _ _ _ _ _ (by simpa using h1) (by simpa using h2) (by simpa using h3) (by simpa using h4) (by simpa using h5) hr.1 hr.2
 ·rw [decide_eq_false hr,Bool.false_and]
  exact rplain_oo _ _ _ _ _ _ _ _ _ (by simpa using h1) (by simpa using h2) (by simpa using h3) (by simpa using h4) (by simpa using h5) (by omega)
end Go.Proofs.YtogalchclmmfgaaDoor
namespace Go.Proofs.YtogalchclmmfgaaDoor
open Go.RowKit
noncomputable def validV (v:V) :Bool:=if v.kind=0 then (v.num == 0) && (v.text.toList == []) else if v.kind=1 then inR v.num && (v.text.toList == []) else if v.kind=2 then in01 v.num && (v.text.toList == []) else if v.kind=3 then (v.num == 0) && txt v.text else false
theorem vval_0 (n:Int) (s:ByteArray) (w:World) :
  Calls Tryd.prog 93 #[.agg #[.int .i64 0,.int .i64 n,.string s]] w fun e w'=>e = .returned (.bool ((n == 0) && (s.toList == [])))∧Below w.heap.size w w':=by
 go_enter Tryd.func93,Tryd.ntmps93;go_wp2
 all_goals go_ret
 all_goals first
  | exact⟨retb (by simp [*];try omega),belA _⟩
  | exact⟨retb (by simp [*];try omega),belAA _ _⟩
  | exact⟨retb (by simp [*];try omega),Below.refl _ _⟩
  | trace_state
theorem vval_1 (n:Int) (s:ByteArray) (w:World) :
  Calls Tryd.prog 93 #[.agg #[.int .i64 1,.int .i64 n,.string s]] w fun e w'=>e = .returned (.bool (inR n && (s.toList == [])))∧Below w.heap.size w w':=by
 go_enter Tryd.func93,Tryd.ntmps93;go_wp2
 all_goals go_ret
 all_goals first
  | exact⟨retb (by simp [*,inR];try omega),belA _⟩
  | exact⟨retb (by simp [*,inR];try omega),belAA _ _⟩
  | exact⟨retb (by simp [*,inR];try omega),Below.refl _ _⟩
  | trace_state
theorem vval_2 (n:Int) (s:ByteArray) (w:World) :
  Calls Tryd.prog 93 #[.agg #[.int .i64 2,.int .i64 n,.string s]] w fun e w'=>e = .returned (.bool (in01 n && (s.toList == [])))∧Below w.heap.size w w':=by
 by_cases h0:n=0
 ·subst h0
  rw [show in01 0=true from rfl]
  go_enter Tryd.func93,Tryd.ntmps93;go_wp2
  all_goals go_ret
  all_goals first
   | exact⟨retb (by simp [*];try omega),belA _⟩
   | exact⟨retb (by simp [*];try omega),belAA _ _⟩
   | exact⟨retb (by simp [*];try omega),Below.refl _ _⟩
   | trace_state
 by_cases h1:n=1
 ·subst h1
  rw [show in01 1=true from rfl]
  go_enter Tryd.func93,Tryd.ntmps93;go_wp2
  all_goals go_ret
  all_goals first
   | exact⟨retb (by simp [*];try omega),belA _⟩
   | exact⟨retb (by simp [*];try omega),belAA _ _⟩
   | exact⟨retb (by simp [*];try omega),Below.refl _ _⟩
   | trace_state
 ·have b0: (n == 0) =false:=beq_eq_false_iff_ne.2 h0
  have b1: (n == 1) =false:=beq_eq_false_iff_ne.2 h1;have c0: (n != 0) =true:=bne_iff_ne.2 h0;have c1: (n != 1) =true:=bne_iff_ne.2 h1;rw [show in01 n=false from decide_eq_false (by omega)]
  clear h0 h1
  go_enter Tryd.func93,Tryd.ntmps93;go_wp2
  all_goals go_ret
  all_goals first
   | exact⟨retb (by simp [*];try omega),belA _⟩
   | exact⟨retb (by simp [*];try omega),belAA _ _⟩
   | exact⟨retb (by simp [*];try omega),Below.refl _ _⟩
   | trace_state
theorem vval_3 (n:Int) (s:ByteArray) (w:World) (hs:s.size≤maxLen) :
  Calls Tryd.prog 93 #[.agg #[.int .i64 3,.int .i64 n,.string s]] w fun e w'=>e = .returned (.bool ((n == 0) && txt s))∧Below w.heap.size w w':=by
 by_cases h0:n=0
 ·subst h0
  exact(vvalid_text s w hs).mono fun e w' ⟨h,hb⟩=>⟨by rw [h];rfl,hb⟩
 ·have b0: (n == 0) =false:=beq_eq_false_iff_ne.2 h0
  have c0: (n != 0) =true:=bne_iff_ne.2 h0;clear h0
  go_enter Tryd.func93,Tryd.ntmps93;go_wp2
  all_goals go_ret
  all_goals first
   | exact⟨retb (by simp [*];try omega),belA _⟩
   | exact⟨retb (by simp [*];try omega),belAA _ _⟩
   | exact⟨retb (by simp [*];try omega),Below.refl _ _⟩
   | trace_state
theorem vval_no (k n:Int) (s:ByteArray) (w:World) (h0:k≠0) (h1:k≠1) (h2:k≠2) (h3:k≠3) :
  Calls Tryd.prog 93 #[.agg #[.int .i64 k,.int .i64 n,.string s]] w fun e w'=>e = .returned (.bool false)∧Below w.heap.size w w':=by
 have b0: (k == 0) =false:=beq_eq_false_iff_ne.2 h0;have b1: (k == 1) =false:=beq_eq_false_iff_ne.2 h1;have b2: (k == 2) =false:=beq_eq_false_iff_ne.2 h2;have b3: (k == 3) =false:=beq_eq_false_iff_ne.2 h3
 go_enter Tryd.func93,Tryd.ntmps93;go_wp2
 all_goals go_ret
 all_goals first
  | exact⟨retb (by simp [*];try omega),belA _⟩
  | exact⟨retb (by simp [*];try omega),belAA _ _⟩
  | exact⟨retb (by simp [*];try omega),Below.refl _ _⟩
  | trace_state
theorem vval_any (v:V) (hv:v.wf) (w:World) :
  Calls Tryd.prog 93 #[.agg #[.int .i64 v.kind,.int .i64 v.num,.string v.text]] w fun e w'=>e = .returned (.bool (validV v))∧Below w.heap.size w w':=by
 obtain⟨k,n,s⟩:=v;have hs:s.size≤maxLen:=hv.2.2;by_cases h0:k=0
 ·subst h0;exact vval_0 n s w
 by_cases h1:k=1
 ·subst h1;exact vval_1 n s w
 by_cases h2:k=2
 ·subst h2;exact vval_2 n s w
 by_cases h3:k=3
 ·subst h3;exact vval_3 n s w hs
 ·have e:validV ⟨k,n,s⟩ =false:=by unfold validV;rw [if_neg h0,if_neg h1,if_neg h2,if_neg h3]
  rw [e];exact vval_no k n s w h0 h1 h2 h3
theorem rval_0 (n:Int) (s:ByteArray) (w:World) :
  Calls Tryd.prog 97 #[.agg #[.int .i64 0,.int .i64 n,.string s]] w fun e w'=>e = .returned (.bool ((n == 0) && (s.toList == [])))∧Below w.heap.size w w':=by
 go_enter Tryd.func97,Tryd.ntmps97;go_wp2
 all_goals go_ret
 all_goals first
  | exact⟨retb (by simp [*];try omega),belA _⟩
  | exact⟨retb (by simp [*];try omega),belAA _ _⟩
  | exact⟨retb (by simp [*];try omega),Below.refl _ _⟩
  | trace_state
theorem rval_1 (n:Int) (s:ByteArray) (w:World) :
  Calls Tryd.prog 97 #[.agg #[.int .i64 1,.int .i64 n,.string s]] w fun e w'=>e = .returned (.bool (inR n && (s.toList == [])))∧Below w.heap.size w w':=by
 go_enter Tryd.func97,Tryd.ntmps97;go_wp2
 all_goals go_ret
 all_goals first
  | exact⟨retb (by simp [*,inR];try omega),belA _⟩
  | exact⟨retb (by simp [*,inR];try omega),belAA _ _⟩
  | exact⟨retb (by simp [*,inR];try omega),Below.refl _ _⟩
  | trace_state
theorem rval_2 (n:Int) (s:ByteArray) (w:World) :
  Calls Tryd.prog 97 #[.agg #[.int .i64 2,.int .i64 n,.string s]] w fun e w'=>e = .returned (.bool (in01 n && (s.toList == [])))∧Below w.heap.size w w':=by
 by_cases h0:n=0
 ·subst h0
  rw [show in01 0=true from rfl]
  go_enter Tryd.func97,Tryd.ntmps97;go_wp2
  all_goals go_ret
  all_goals first
   | exact⟨retb (by simp [*];try omega),belA _⟩
   | exact⟨retb (by simp [*];try omega),belAA _ _⟩
   | exact⟨retb (by simp [*];try omega),Below.refl _ _⟩
   | trace_state
 by_cases h1:n=1
 ·subst h1
  rw [show in01 1=true from rfl]
  go_enter Tryd.func97,Tryd.ntmps97;go_wp2
  all_goals go_ret
  all_goals first
   | exact⟨retb (by simp [*];try omega),belA _⟩
   | exact⟨retb (by simp [*];try omega),belAA _ _⟩
   | exact⟨retb (by simp [*];try omega),Below.refl _ _⟩
   | trace_state
 ·have b0: (n == 0) =false:=beq_eq_false_iff_ne.2 h0
  have b1: (n == 1) =false:=beq_eq_false_iff_ne.2 h1;have c0: (n != 0) =true:=bne_iff_ne.2 h0;have c1: (n != 1) =true:=bne_iff_ne.2 h1;rw [show in01 n=false from decide_eq_false (by omega)]
  clear h0 h1
  go_enter Tryd.func97,Tryd.ntmps97;go_wp2
  all_goals go_ret
  all_goals first
   | exact⟨retb (by simp [*];try omega),belA _⟩
   | exact⟨retb (by simp [*];try omega),belAA _ _⟩
   | exact⟨retb (by simp [*];try omega),Below.refl _ _⟩
   | trace_state
theorem rval_3 (n:Int) (s:ByteArray) (w:World) (hs:s.size≤maxLen) :
  Calls Tryd.prog 97 #[.agg #[.int .i64 3,.int .i64 n,.string s]] w fun e w'=>e = .returned (.bool ((n == 0) && txt s))∧Below w.heap.size w w':=by
 by_cases h0:n=0
 ·subst h0
  exact(rvalid_text s w hs).mono fun e w' ⟨h,hb⟩=>⟨by rw [h];rfl,hb⟩
 ·have b0: (n == 0) =false:=beq_eq_false_iff_ne.2 h0
  have c0: (n != 0) =true:=bne_iff_ne.2 h0;clear h0
  go_enter Tryd.func97,Tryd.ntmps97;go_wp2
  all_goals go_ret
  all_goals first
   | exact⟨retb (by simp [*];try omega),belA _⟩
   | exact⟨retb (by simp [*];try omega),belAA _ _⟩
   | exact⟨retb (by simp [*];try omega),Below.refl _ _⟩
   | trace_state
theorem rval_no (k n:Int) (s:ByteArray) (w:World) (h0:k≠0) (h1:k≠1) (h2:k≠2) (h3:k≠3) :
  Calls Tryd.prog 97 #[.agg #[.int .i64 k,.int .i64 n,.string s]] w fun e w'=>e = .returned (.bool false)∧Below w.heap.size w w':=by
 have b0: (k == 0) =false:=beq_eq_false_iff_ne.2 h0;have b1: (k == 1) =false:=beq_eq_false_iff_ne.2 h1;have b2: (k == 2) =false:=beq_eq_false_iff_ne.2 h2;have b3: (k == 3) =false:=beq_eq_false_iff_ne.2 h3
 go_enter Tryd.func97,Tryd.ntmps97;go_wp2
 all_goals go_ret
 all_goals first
  | exact⟨retb (by simp [*];try omega),belA _⟩
  | exact⟨retb (by simp [*];try omega),belAA _ _⟩
  | exact⟨retb (by simp [*];try omega),Below.refl _ _⟩
  | trace_state
theorem rval_any (v:V) (hv:v.wf) (w:World) :
  Calls Tryd.prog 97 #[.agg #[.int .i64 v.kind,.int .i64 v.num,.string v.text]] w fun e w'=>e = .returned (.bool (validV v))∧Below w.heap.size w w':=by
 obtain⟨k,n,s⟩:=v;have hs:s.size≤maxLen:=hv.2.2;by_cases h0:k=0
 ·subst h0;exact rval_0 n s w
 by_cases h1:k=1
 ·subst h1;exact rval_1 n s w
 by_cases h2:k=2
 ·subst h2;exact rval_2 n s w
 by_cases h3:k=3
 ·subst h3;exact rval_3 n s w hs
 ·have e:validV ⟨k,n,s⟩ =false:=by unfold validV;rw [if_neg h0,if_neg h1,if_neg h2,if_neg h3]
  rw [e];exact rval_no k n s w h0 h1 h2 h3
end Go.Proofs.YtogalchclmmfgaaDoor

/- slices.ContainsFunc and IndexFunc over columns, slots and literals, with the closures of plain, right and covered; conjunctive.plain and formed. -/
import Derived.Test.YtiijaaohphokcaaGreatDoorG15
set_option maxRecDepth 100000
set_option maxHeartbeats 16000000
namespace Go.Proofs.YtiijaaohphokcaaGreatDoor
open Go.RowKit
theorem pcol_idx (p:Col→Bool) (h:Hd) (xs:List (Col)) (w:World) (hr:Row w 3 Col.cells h xs) (hC: ∀W,Below w.heap.size w W→∀x∈xs,Calls Tryz.prog 159 #[.agg #[.string x.name,.int .i64 x.typ,.bool x.nul]] W fun e w'=>e = .returned (.bool (p x))∧Below W.heap.size W w') :
  Calls Tryz.prog 178 #[.slice h.ao xs.length h.cap,.func (.func 159) #[] #[]] w fun e w'=>e = .returned (.int .i64 (fx p xs))∧Below w.heap.size w w':=by
 have hn:=hr.len;have HR:=ai hr;have HC:=ai hC;clear hr hC
 go_enter Tryz.func178,Tryz.ntmps178;go_wp2;go_loopw [5,8] (fun _ i wr=>∃k:Nat,k≤xs.length∧i = .int .i64 k∧Hid (∀j (hj:j<xs.length),j<k→p xs[j] =false)∧Hid (Below w.heap.size w wr)) (fun _ i _=>xs.length - (intOf i).toNat)
 case atStart=>exact⟨0,Nat.zero_le _,rfl,fun j _ h=>absurd h (by omega),Below.refl _ _⟩
 case round=>
  obtain⟨k,hk,rfl,HN,HB⟩:=hrel;by_cases hlt:k<xs.length
  ·have hrr:=HR.o.mono HB.o
   have hix:=hrr.ix hlt Tryz.underlying73 sz30;obtain⟨c0,c1,c2⟩:=col_at hrr hlt;have HCL:=ai (HC.o wr HB.o _ (List.getElem_mem hlt));have hbk:=hrr.blk hlt;clear hrr
   cases hp:p xs[k]
   all_goals
    have HP:=ai hp;clear hp;go_wp2_with (go_at_call 159;refine HCL.o.mono ?_;rintro e w1 ⟨rfl,hb1⟩;rw [HP.o];have HB1:=ai hb1;clear hb1)
   ·go_roundw
    case rel=>
     refine⟨k+1,by omega,by go_num,fun j hj h=> ?_,HB.o.trans (HB1.o.mono HB.o.size)⟩
     by_cases e:j=k
     ·subst e;exact HP.o
     ·exact HN.o j hj (by omega)
    case measure=>simp [intOf];omega
   ·go_ret
    exact⟨ret1 (fx_hit hlt HP.o (fun j hj h=>HN.o j hj h)).symm,HB.o.trans (HB1.o.mono HB.o.size)⟩
  ·go_wp2
   go_ret
   exact⟨ret1 (fx_miss (fun j hj=>HN.o j hj (by omega))).symm,HB.o⟩
theorem pcol_cont (p:Col→Bool) (h:Hd) (xs:List (Col)) (w:World) (hr:Row w 3 Col.cells h xs) (hC: ∀W,Below w.heap.size w W→∀x∈xs,Calls Tryz.prog 159 #[.agg #[.string x.name,.int .i64 x.typ,.bool x.nul]] W fun e w'=>e = .returned (.bool (p x))∧Below W.heap.size W w') :
  Calls Tryz.prog 158 #[.slice h.ao xs.length h.cap,.func (.func 159) #[] #[]] w fun e w'=>e = .returned (.bool (xs.any p))∧Below w.heap.size w w':=by
 have HA:=ai (fx_any p xs);have HCL:=ai (pcol_idx p h xs w hr hC);clear hr hC
 go_enter Tryz.func158,Tryz.ntmps158;go_wp2_with (go_at_call 178;refine HCL.o.mono ?_;rintro e w1 ⟨rfl,hb1⟩)
 go_ret
 exact⟨by rw [←HA.o];rfl,hb1⟩
theorem rsl_idx (p:Tm V→Bool) (h:Hd) (xs:List (Tm V)) (c:Nat) (w:World) (hr:Row w 4 Tm.cells h xs) (hC: ∀W,Below w.heap.size w W→∀x∈xs,Calls Tryz.prog 112 #[.agg #[.int .i64 x.nr,.int .i64 x.val.kind,.int .i64 x.val.num,.string x.val.text],.pointer (some ⟨c,0,none⟩)] W fun e w'=>e = .returned (.bool (p x))∧Below W.heap.size W w') :
  Calls Tryz.prog 124 #[.slice h.ao xs.length h.cap,.func (.func 112) #[] #[.pointer (some ⟨c,0,none⟩)]] w fun e w'=>e = .returned (.int .i64 (fx p xs))∧Below w.heap.size w w':=by
 have hn:=hr.len;have HR:=ai hr;have HC:=ai hC;clear hr hC
 go_enter Tryz.func124,Tryz.ntmps124;go_wp2;go_loopw [5,8] (fun _ i wr=>∃k:Nat,k≤xs.length∧i = .int .i64 k∧Hid (∀j (hj:j<xs.length),j<k→p xs[j] =false)∧Hid (Below w.heap.size w wr)) (fun _ i _=>xs.length - (intOf i).toNat)
 case atStart=>exact⟨0,Nat.zero_le _,rfl,fun j _ h=>absurd h (by omega),Below.refl _ _⟩
 case round=>
  obtain⟨k,hk,rfl,HN,HB⟩:=hrel;by_cases hlt:k<xs.length
  ·have hrr:=HR.o.mono HB.o
   have hix:=hrr.ix hlt Tryz.underlying30 szslot;obtain⟨c0,c1,c2,c3⟩:=tm_at hrr hlt;have HCL:=ai (HC.o wr HB.o _ (List.getElem_mem hlt));have hbk:=hrr.blk hlt;clear hrr
   cases hp:p xs[k]
   all_goals
    have HP:=ai hp;clear hp;go_wp2_with (go_at_call 112;refine HCL.o.mono ?_;rintro e w1 ⟨rfl,hb1⟩;rw [HP.o];have HB1:=ai hb1;clear hb1)
   ·go_roundw
    case rel=>
     refine⟨k+1,by omega,by go_num,fun j hj h=> ?_,HB.o.trans (HB1.o.mono HB.o.size)⟩
     by_cases e:j=k
     ·subst e;exact HP.o
     ·exact HN.o j hj (by omega)
    case measure=>simp [intOf];omega
   ·go_ret
    exact⟨ret1 (fx_hit hlt HP.o (fun j hj h=>HN.o j hj h)).symm,HB.o.trans (HB1.o.mono HB.o.size)⟩
  ·go_wp2
   go_ret
   exact⟨ret1 (fx_miss (fun j hj=>HN.o j hj (by omega))).symm,HB.o⟩
theorem rsl_cont (p:Tm V→Bool) (h:Hd) (xs:List (Tm V)) (c:Nat) (w:World) (hr:Row w 4 Tm.cells h xs) (hC: ∀W,Below w.heap.size w W→∀x∈xs,Calls Tryz.prog 112 #[.agg #[.int .i64 x.nr,.int .i64 x.val.kind,.int .i64 x.val.num,.string x.val.text],.pointer (some ⟨c,0,none⟩)] W fun e w'=>e = .returned (.bool (p x))∧Below W.heap.size W w') :
  Calls Tryz.prog 84 #[.slice h.ao xs.length h.cap,.func (.func 112) #[] #[.pointer (some ⟨c,0,none⟩)]] w fun e w'=>e = .returned (.bool (xs.any p))∧Below w.heap.size w w':=by
 have HA:=ai (fx_any p xs);have HCL:=ai (rsl_idx p h xs c w hr hC);clear hr hC
 go_enter Tryz.func84,Tryz.ntmps84;go_wp2_with (go_at_call 124;refine HCL.o.mono ?_;rintro e w1 ⟨rfl,hb1⟩)
 go_ret
 exact⟨by rw [←HA.o];rfl,hb1⟩
theorem csl_idx (p:Tm V→Bool) (h:Hd) (xs:List (Tm V)) (c:Nat) (w:World) (hr:Row w 4 Tm.cells h xs) (hC: ∀W,Below w.heap.size w W→∀x∈xs,Calls Tryz.prog 85 #[.agg #[.int .i64 x.nr,.int .i64 x.val.kind,.int .i64 x.val.num,.string x.val.text],.pointer (some ⟨c,0,none⟩)] W fun e w'=>e = .returned (.bool (p x))∧Below W.heap.size W w') :
  Calls Tryz.prog 124 #[.slice h.ao xs.length h.cap,.func (.func 85) #[] #[.pointer (some ⟨c,0,none⟩)]] w fun e w'=>e = .returned (.int .i64 (fx p xs))∧Below w.heap.size w w':=by
 have hn:=hr.len;have HR:=ai hr;have HC:=ai hC;clear hr hC
 go_enter Tryz.func124,Tryz.ntmps124;go_wp2;go_loopw [5,8] (fun _ i wr=>∃k:Nat,k≤xs.length∧i = .int .i64 k∧Hid (∀j (hj:j<xs.length),j<k→p xs[j] =false)∧Hid (Below w.heap.size w wr)) (fun _ i _=>xs.length - (intOf i).toNat)
 case atStart=>exact⟨0,Nat.zero_le _,rfl,fun j _ h=>absurd h (by omega),Below.refl _ _⟩
 case round=>
  obtain⟨k,hk,rfl,HN,HB⟩:=hrel;by_cases hlt:k<xs.length
  ·have hrr:=HR.o.mono HB.o
   have hix:=hrr.ix hlt Tryz.underlying30 szslot;obtain⟨c0,c1,c2,c3⟩:=tm_at hrr hlt;have HCL:=ai (HC.o wr HB.o _ (List.getElem_mem hlt));have hbk:=hrr.blk hlt;clear hrr
   cases hp:p xs[k]
   all_goals
    have HP:=ai hp;clear hp;go_wp2_with (go_at_call 85;refine HCL.o.mono ?_;rintro e w1 ⟨rfl,hb1⟩;rw [HP.o];have HB1:=ai hb1;clear hb1)
   ·go_roundw
    case rel=>
     refine⟨k+1,by omega,by go_num,fun j hj h=> ?_,HB.o.trans (HB1.o.mono HB.o.size)⟩
     by_cases e:j=k
     ·subst e;exact HP.o
     ·exact HN.o j hj (by omega)
    case measure=>simp [intOf];omega
   ·go_ret
    exact⟨ret1 (fx_hit hlt HP.o (fun j hj h=>HN.o j hj h)).symm,HB.o.trans (HB1.o.mono HB.o.size)⟩
  ·go_wp2
   go_ret
   exact⟨ret1 (fx_miss (fun j hj=>HN.o j hj (by omega))).symm,HB.o⟩
theorem csl_cont (p:Tm V→Bool) (h:Hd) (xs:List (Tm V)) (c:Nat) (w:World) (hr:Row w 4 Tm.cells h xs) (hC: ∀W,Below w.heap.size w W→∀x∈xs,Calls Tryz.prog 85 #[.agg #[.int .i64 x.nr,.int .i64 x.val.kind,.int .i64 x.val.num,.string x.val.text],.pointer (some ⟨c,0,none⟩)] W fun e w'=>e = .returned (.bool (p x))∧Below W.heap.size W w') :
  Calls Tryz.prog 84 #[.slice h.ao xs.length h.cap,.func (.func 85) #[] #[.pointer (some ⟨c,0,none⟩)]] w fun e w'=>e = .returned (.bool (xs.any p))∧Below w.heap.size w w':=by
 have HA:=ai (fx_any p xs);have HCL:=ai (csl_idx p h xs c w hr hC);clear hr hC
 go_enter Tryz.func84,Tryz.ntmps84;go_wp2_with (go_at_call 124;refine HCL.o.mono ?_;rintro e w1 ⟨rfl,hb1⟩)
 go_ret
 exact⟨by rw [←HA.o];rfl,hb1⟩
theorem cli_idx (p:Li→Bool) (h:Hd) (xs:List (Li)) (c:Nat) (w:World) (hr:Row w 2 Li.cells h xs) (hC: ∀W,Below w.heap.size w W→∀x∈xs,Calls Tryz.prog 83 #[.agg #[.int .i64 (x.tab:Nat),.slice x.sl.h.ao x.sl.l.length x.sl.h.cap],.pointer (some ⟨c,0,none⟩)] W fun e w'=>e = .returned (.bool (p x))∧Below W.heap.size W w') :
  Calls Tryz.prog 123 #[.slice h.ao xs.length h.cap,.func (.func 83) #[] #[.pointer (some ⟨c,0,none⟩)]] w fun e w'=>e = .returned (.int .i64 (fx p xs))∧Below w.heap.size w w':=by
 have hn:=hr.len;have HR:=ai hr;have HC:=ai hC;clear hr hC
 go_enter Tryz.func123,Tryz.ntmps123;go_wp2;go_loopw [5,8] (fun _ i wr=>∃k:Nat,k≤xs.length∧i = .int .i64 k∧Hid (∀j (hj:j<xs.length),j<k→p xs[j] =false)∧Hid (Below w.heap.size w wr)) (fun _ i _=>xs.length - (intOf i).toNat)
 case atStart=>exact⟨0,Nat.zero_le _,rfl,fun j _ h=>absurd h (by omega),Below.refl _ _⟩
 case round=>
  obtain⟨k,hk,rfl,HN,HB⟩:=hrel;by_cases hlt:k<xs.length
  ·have hrr:=HR.o.mono HB.o
   have hix:=hrr.ix hlt Tryz.underlying29 szlit;obtain⟨c0,c1⟩:=li_at hrr hlt;have HCL:=ai (HC.o wr HB.o _ (List.getElem_mem hlt));have hbk:=hrr.blk hlt;clear hrr
   cases hp:p xs[k]
   all_goals
    have HP:=ai hp;clear hp;go_wp2_with (go_at_call 83;refine HCL.o.mono ?_;rintro e w1 ⟨rfl,hb1⟩;rw [HP.o];have HB1:=ai hb1;clear hb1)
   ·go_roundw
    case rel=>
     refine⟨k+1,by omega,by go_num,fun j hj h=> ?_,HB.o.trans (HB1.o.mono HB.o.size)⟩
     by_cases e:j=k
     ·subst e;exact HP.o
     ·exact HN.o j hj (by omega)
    case measure=>simp [intOf];omega
   ·go_ret
    exact⟨ret1 (fx_hit hlt HP.o (fun j hj h=>HN.o j hj h)).symm,HB.o.trans (HB1.o.mono HB.o.size)⟩
  ·go_wp2
   go_ret
   exact⟨ret1 (fx_miss (fun j hj=>HN.o j hj (by omega))).symm,HB.o⟩
theorem cli_cont (p:Li→Bool) (h:Hd) (xs:List (Li)) (c:Nat) (w:World) (hr:Row w 2 Li.cells h xs) (hC: ∀W,Below w.heap.size w W→∀x∈xs,Calls Tryz.prog 83 #[.agg #[.int .i64 (x.tab:Nat),.slice x.sl.h.ao x.sl.l.length x.sl.h.cap],.pointer (some ⟨c,0,none⟩)] W fun e w'=>e = .returned (.bool (p x))∧Below W.heap.size W w') :
  Calls Tryz.prog 82 #[.slice h.ao xs.length h.cap,.func (.func 83) #[] #[.pointer (some ⟨c,0,none⟩)]] w fun e w'=>e = .returned (.bool (xs.any p))∧Below w.heap.size w w':=by
 have HA:=ai (fx_any p xs);have HCL:=ai (cli_idx p h xs c w hr hC);clear hr hC
 go_enter Tryz.func82,Tryz.ntmps82;go_wp2_with (go_at_call 123;refine HCL.o.mono ?_;rintro e w1 ⟨rfl,hb1⟩)
 go_ret
 exact⟨by rw [←HA.o];rfl,hb1⟩
theorem pclo_no (x:Col) (w:World) (h1:x.typ=1∨x.typ=3) (h2:x.nul=false) :Calls Tryz.prog 159 #[.agg #[.string x.name,.int .i64 x.typ,.bool x.nul]] w fun e w'=>e = .returned (.bool false)∧Below w.heap.size w w':=by
 rw [h2];rcases h1 with h|h
 all_goals
  rw [h]
  go_enter Tryz.func159,Tryz.ntmps159;go_wp2;go_ret
  exact⟨rfl,belA _⟩
theorem any_no {α:Type} (xs:List α) :xs.any (fun _=>false) =false:=by induction xs with|nil=>rfl|cons a l ih=>exact ih
theorem plain_yes (nm:ByteArray) (ch:Hd) (cols:List Col) (ph:Hd) (w:World) (hx: (pt nm ch cols ph).In w) (hp:PCols cols) :
  Calls Tryz.prog 109 #[.agg #[.string nm,.slice ch.ao cols.length ch.cap,.slice ph.ao 1 ph.cap,.slice none 0 0,.slice none 0 0,.slice none 0 0]] w fun e w'=>e = .returned (.bool true)∧Below w.heap.size w w':=by
 have HB0:=ai (belA (w:=w) (.cells #[.string nm,.slice ch.ao cols.length ch.cap,.slice ph.ao 1 ph.cap,.slice none 0 0,.slice none 0 0,.slice none 0 0] 78))
 have HC:=ai (pcol_cont (fun _=>false) ch cols _ (hx.mono HB0.o).rc (fun W _ x hm=>pclo_no x W (hp.ty x hm) (hp.nu x hm)))
 have HA:=ai (any_no cols);clear hx hp
 go_enter Tryz.func109,Tryz.ntmps109;go_wp2_with (go_at_call 158;refine HC.o.mono ?_;rintro e w1 ⟨rfl,hb1⟩;rw [HA.o];have HB1:=ai hb1;clear hb1)
 go_ret
 exact⟨rfl,bel1 HB1.o⟩
theorem formed_yes (vars:Nat) (lv hv:Value) (t:Tm V) (w:World) (hw:t.wf) (ht:match t with | .v n=>n<vars | .c k=>validV k=true∧k.kind≠0) :
  Calls Tryz.prog 110 #[.agg #[.int .i64 (vars:Nat),lv,hv],.agg #[.int .i64 t.nr,.int .i64 t.val.kind,.int .i64 t.val.num,.string t.val.text]] w fun e w'=>e = .returned (.bool true)∧Below w.heap.size w w':=by
 cases t with
 | v n=>
  have hn:n<vars:=ht;have h1: ((n:Int) == -1) =false:=beq_eq_false_iff_ne.2 (by omega)
  have h2: (0:Int)≤(n:Int):=by omega
  have h3: (n:Int) < (vars:Int):=by omega
  clear ht hw;simp only [Tm.nr,Tm.val,nulV]
  go_enter Tryz.func110,Tryz.ntmps110;go_wp2;go_ret
  exact⟨rfl,belAA _ _⟩
 | c k=>
  obtain⟨hk,h0⟩:=ht;have HK:=ai hk;have HWF:=ai (show k.wf from hw)
  have h1: (k.kind != 0) =true:=bne_iff_ne.2 h0;clear hk h0 hw;simp only [Tm.nr,Tm.val]
  go_enter Tryz.func110,Tryz.ntmps110;go_wp2_with (go_at_call 92;refine(vval_any k HWF.o _).mono ?_;rintro e w1 ⟨rfl,hb1⟩;rw [HK.o];have HB1:=ai hb1;have hbq:=box2 hb1;have x0:=hbq.cell (j:=0) rfl;have x1:=hbq.cell (j:=1) rfl;clear hb1 hbq)
  go_ret
  exact⟨rfl,bT (belAA _ _) HB1.o⟩
end Go.Proofs.YtiijaaohphokcaaGreatDoor
/- conjunctive.right and Valid of a query that is right. -/
namespace Go.Proofs.YtiijaaohphokcaaGreatDoor
open Go.RowKit
def colT (s:Sch) :List (List Int):=s.tabs.map fun t=>t.cols.map Col.typ
abbrev qcells (q:Cq) :Array Value:=#[.int .i64 (q.vars:Nat),.slice q.lh.ao q.lits.length q.lh.cap,.slice q.head.h.ao q.head.l.length q.head.h.cap]
theorem rclo_no (q:Cq) (x:Tm V) (c:Nat) (w:World) (hb:Box w c (qcells q) 32) (hw:x.wf) (hh:HeadOk q.vars x) :
  Calls Tryz.prog 112 #[.agg #[.int .i64 x.nr,.int .i64 x.val.kind,.int .i64 x.val.num,.string x.val.text],.pointer (some ⟨c,0,none⟩)] w fun e w'=>e = .returned (.bool false)∧Below w.heap.size w w':=by
 have c0:w.cell? ⟨c,0,none⟩ =some (.int .i64 (q.vars:Nat)):=hb.cell rfl;have c1:w.cell? ⟨c,1,none⟩ =some (.slice q.lh.ao q.lits.length q.lh.cap):=hb.cell rfl;have c2:w.cell? ⟨c,2,none⟩ =some (.slice q.head.h.ao q.head.l.length q.head.h.cap):=hb.cell rfl;have hlc:c<w.heap.size:=hb.lt;have HF:=ai (fun(W:World)=>formed_yes q.vars (.slice q.lh.ao q.lits.length q.lh.cap) (.slice q.head.h.ao q.head.l.length q.head.h.cap) x W hw (by
  cases x with
  | v n=>exact hh
  | c k=>exact⟨hh.1.1,hh.2.1⟩))
 cases x with
 | v n=>
  have h1: ¬(n:Int) <0:=by omega
  clear hw hh hb;simp only [Tm.nr,Tm.val,nulV]at *
  go_enter Tryz.func112,Tryz.ntmps112;go_wp2_with (go_at_call 110;refine(HF.o _).mono ?_;rintro e w1 ⟨rfl,hb1⟩;have HB1:=ai hb1;have hbq:=boxA hb1;have x0:=hbq.cell (j:=0) rfl;clear hb1 hbq)
  go_ret
  exact⟨rfl,bel1 HB1.o⟩
 | c k=>
  have h2: (k.kind == 2) =false:=beq_eq_false_iff_ne.2 hh.2.2;clear hw hh hb;simp only [Tm.nr,Tm.val]at *
  go_enter Tryz.func112,Tryz.ntmps112;go_wp2_with (go_at_call 110;refine(HF.o _).mono ?_;rintro e w1 ⟨rfl,hb1⟩;have HB1:=ai hb1;have hbq:=boxA hb1;have x0:=hbq.cell (j:=0) rfl;have x1:=hbq.cell (j:=1) rfl;clear hb1 hbq)
  go_ret
  exact⟨rfl,bel1 HB1.o⟩
structure TW (w:World) (s:Sch) (q:Cq) (g:Nat) (f:Nat→Int) (x:World) :Prop where
 bel:Below w.heap.size w x
 bs:Box x w.heap.size #[.slice s.th.ao s.tabs.length s.th.cap] 27
 bq:Box x (w.heap.size+1) (qcells q) 32
 at': ∀n,n<q.vars→x.cell? ⟨g,n,none⟩ =some (.int .i64 (f n))
 fr: ∀j,x.frozen? ⟨g,j,none⟩ =false
 lo:w.heap.size+2≤g
 hi:g<x.heap.size
theorem TW.grown {w:World} {s:Sch} {q:Cq} {g:Nat} {f:Nat→Int} {x y:World} (h:TW w s q g f x) (hb:Below x.heap.size x y) :TW w s q g f y:=
 ⟨bT h.bel hb,h.bs.below hb,h.bq.below hb,fun n hn=>by rw [hb.cell (p:=⟨g,n,none⟩) h.hi];exact h.at' n hn,fun j=>by simp only [World.frozen?];rw [hb.block g h.hi];exact h.fr j,h.lo,Nat.lt_of_lt_of_le h.hi hb.size⟩
theorem TW.set {w:World} {s:Sch} {q:Cq} {g:Nat} {f:Nat→Int} {x:World} (h:TW w s q g f x) {n:Nat} (hn:n<q.vars) (c:Int) :TW w s q g (fun y=>if y=n then c else f y) (x.setCell ⟨g,n,none⟩ (.int .i64 c)):=by
 have hg:=gb_set x g n (.int .i64 c);have hlo:=h.lo;refine⟨h.bel.grown hg h.bel.size (fun j e=>by injection e with e;omega),h.bs.grown hg (by intro e;injection e with e;omega),h.bq.grown hg (by intro e;injection e with e;omega),fun y hy=> ?_,fun j=>by rw [frozen_set];exact h.fr j,h.lo,by simpa using h.hi⟩
 by_cases e:y=n
 ·subst e;rw [if_pos rfl];exact World.cell?_setCell_same _ _ _ (h.at' y hy)
 ·rw [if_neg e,cell_set_ne e];exact h.at' y hy
def Met (q:Cq) (k i:Nat) (n:Nat) :Prop:=(∃l∈q.lits.take k,Tm.v n∈l.sl.l)∨∃h:k<q.lits.length,Tm.v n∈(q.lits[k]).sl.l.take i
def TOk (q:Cq) (τ:Nat→Int) (k i:Nat) (f:Nat→Int) :Prop:=∀n,n<q.vars→(f n=0∨f n=τ n)∧(Met q k i n→f n=τ n)
theorem TOk.zero {q:Cq} {τ:Nat→Int} : TOk q τ 0 0 (fun _=>0):=fun n _=>⟨.inl rfl,fun h=>by
 rcases h with⟨l,hl,_⟩ | ⟨_,h⟩
 ·cases hl
 ·cases h⟩
theorem TOk.lit {q:Cq} {τ:Nat→Int} {k i:Nat} {f:Nat→Int} (h:TOk q τ k i f) (hk:k<q.lits.length) (hi: ¬i< (q.lits[k]).sl.l.length) :TOk q τ (k+1) 0 f:=fun n hn=>⟨(h n hn).1,fun hm=>(h n hn).2 (by
 rcases hm with⟨l,hl,hx⟩ | ⟨_,h⟩
 ·rw [List.take_succ_eq_append_getElem hk]at hl
  rcases List.mem_append.1 hl with hl|hl
  ·exact .inl ⟨l,hl,hx⟩
  ·rw [List.mem_singleton.1 hl]at hx
   exact .inr ⟨hk,by rw [List.take_of_length_le (by omega)];exact hx⟩
 ·cases h)⟩
theorem TOk.con {q:Cq} {τ:Nat→Int} {k i:Nat} {f:Nat→Int} (h:TOk q τ k i f) (hk:k<q.lits.length) (hi:i< (q.lits[k]).sl.l.length) {c:V} (hc: (q.lits[k]).sl.l[i] = .c c) :TOk q τ k (i+1) f:=fun n hn=>⟨(h n hn).1,fun hm=>(h n hn).2 (by
 rcases hm with hm| ⟨_,hm⟩
 ·exact .inl hm
 ·rw [List.take_succ_eq_append_getElem hi]at hm
  rcases List.mem_append.1 hm with hm|hm
  ·exact .inr ⟨hk,hm⟩
  ·rw [hc]at hm
   cases List.mem_singleton.1 hm)⟩
theorem TOk.var {q:Cq} {τ:Nat→Int} {k i:Nat} {f:Nat→Int} (h:TOk q τ k i f) (hk:k<q.lits.length) (hi:i< (q.lits[k]).sl.l.length) {m:Nat} (hm: (q.lits[k]).sl.l[i] = .v m) {c:Int} (hc:τ m=c) :TOk q τ k (i+1) (fun y=>if y=m then c else f y):=fun n hn=>by
 by_cases e:n=m
 ·subst e
  dsimp only
  rw [if_pos rfl];exact⟨.inr hc.symm,fun _=>hc.symm⟩
 ·dsimp only
  rw [if_neg e];refine⟨(h n hn).1,fun hx=>(h n hn).2 ?_⟩
  rcases hx with hx| ⟨_,hx⟩
  ·exact .inl hx
  ·rw [List.take_succ_eq_append_getElem hi]at hx
   rcases List.mem_append.1 hx with hx|hx
   ·exact .inr ⟨hk,hx⟩
   ·rw [hm]at hx
    injection (List.mem_singleton.1 hx)with hx;exact absurd hx e
theorem TOk.last {q:Cq} {τ:Nat→Int} {f:Nat→Int} (h:TOk q τ q.lits.length 0 f) {n:Nat} (hn:n<q.vars) (ho:Occ q.cj n) :f n=τ n:=(h n hn).2 (by
 obtain⟨l,hl,hx⟩:=ho;obtain⟨a,ha,rfl⟩:=List.mem_map.1 hl;exact .inl ⟨a,by rw [List.take_length];exact ha,hx⟩)
theorem lit_tab {s:Sch} {vars:Nat} {τ:Nat→Int} {l:Li} (hp:PSch s) (h:LitOk (colT s) vars τ l.lt) : ∃(ht:l.tab<s.tabs.length) (nm:ByteArray) (ch:Hd) (cols:List Col) (ph:Hd),s.tabs[l.tab] =pt nm ch cols ph∧PCols cols∧l.sl.l.length=cols.length∧∀i (h1:i<l.sl.l.length) (h2:i<cols.length),SlotOk vars τ l.sl.l[i] (cols[i]).typ:=by
 obtain⟨ty,h1,h2,h3⟩:=h;have h1: (s.tabs.map fun t=>t.cols.map Col.typ)[l.tab]? = some ty:=h1
 rw [List.getElem?_map]at h1;by_cases ht:l.tab<s.tabs.length
 ·rw [List.getElem?_eq_getElem ht]at h1
  injection h1 with h1;obtain⟨nm,ch,cols,ph,e,_,hc⟩:=hp.pl _ (List.getElem_mem ht);rw [e]at h1;have h1:cols.map Col.typ=ty:=h1;have h2:l.sl.l.length=ty.length:=h2;subst h1;rw [List.length_map]at h2;exact⟨ht,nm,ch,cols,ph,e,hc,h2,fun i g1 g2=>h3 i _ _ (List.getElem?_eq_getElem g1) (by rw [List.getElem?_map,List.getElem?_eq_getElem g2];rfl)⟩
 ·rw [List.getElem?_eq_none (by omega)]at h1
  cases h1
end Go.Proofs.YtiijaaohphokcaaGreatDoor

/- A part of the proof of AlgebraMade. -/
import Derived.Test.YtogalchclmmfgaaDoorP06
import Derived.Test.YtogalchclmmfgaaDoorP01
import Derived.Test.YtogalchclmmfgaaDoorP05
import Derived.Test.YtogalchclmmfgaaDoorP02
import Derived.Deep.QuietTactic
import Derived.BigQuiet
import Derived.BigRegion
set_option maxRecDepth 100000
set_option maxHeartbeats 16000000
namespace Go.Proofs.YtogalchclmmfgaaDoor
open Go.RowKit
def alla (t:Int) (l:List Int) :Bool:=l.all (· == t)
def neT (t:Int) (x:Int) :Bool:=x != t
theorem any_neT (t:Int) (l:List Int) : (!(l.any (neT t))) =alla t l:=by
 unfold alla neT
 induction l with
 | nil=>rfl
 | cons x l ih=>simp only [List.any_cons,List.all_cons,Bool.not_or,ih];cases h: (x == t)<;>simp_all
theorem fx_any {α:Type} (p:α→Bool) (l:List α) :decide (0≤fx p l) =l.any p:=by
 unfold fx fi fok
 rw [List.findIdx?_isSome]
 cases h:l.any p with
 | true=>simp
 | false=>simp
theorem fclo_any (x t:Int) (c:Nat) (w:World) (hc:w.cell? ⟨c,0,none⟩ =some (.int .i64 t)) :
  Calls Tryd.prog 120 #[.int .i64 x,.pointer (some ⟨c,0,none⟩)] w
   fun e w'=>e = .returned (.bool (neT t x))∧Below w.heap.size w w':=by
 go_enter Tryd.func120,Tryd.ntmps120;go_wp2;go_ret
 exact⟨rfl,Below.refl _ _⟩
theorem findex_any (l:IL) (t:Int) (c:Nat) (w:World) (hin:l.In w) (hc:w.cell? ⟨c,0,none⟩ =some (.int .i64 t)) :
  Calls Tryd.prog 100 #[.slice l.h.ao l.l.length l.h.cap,.func (.func 120) #[] #[.pointer (some ⟨c,0,none⟩)]] w
   fun e w'=>e = .returned (.int .i64 (fx (neT t) l.l))∧Below w.heap.size w w':=by
 have hlc:c<w.heap.size:=World.block_lt_of_cell? w ⟨c,0,none⟩ hc;have hn:=hin.1.len
 go_enter Tryd.func100,Tryd.ntmps100;go_wp2;go_loopw [5,8] (fun _ i wr=>∃k:Nat,k≤l.l.length∧i = .int .i64 k∧(∀j (hj:j<l.l.length),j<k→neT t l.l[j] =false)∧Below w.heap.size w wr) (fun _ i _=>l.l.length - (intOf i).toNat)
 case atStart=>exact⟨0,Nat.zero_le _,rfl,fun j _ h=>absurd h (by omega),Below.refl _ _⟩
 case round=>
  obtain⟨k,hk,rfl,hno,hbw⟩:=hrel;have HN:=ai hno;have HB:=ai hbw;have hin':=hin.mono hbw;have hc':wr.cell? ⟨c,0,none⟩ =some (.int .i64 t):=by rw [hbw.cell hlc];exact hc
  clear hno hbw hc;by_cases hlt:k<l.l.length
  ·have hix:=IL.ix hin' hlt
   have c0:=int_at hin'.1 hlt
   cases hp:neT t l.l[k]
   all_goals
    have HP:=ai hp;clear hp;go_wp2_with (go_at_call 120;refine(fclo_any l.l[k] t c _ hc').mono ?_;rintro e w1 ⟨rfl,hb1⟩;rw [HP.o])
   ·go_roundw
    case rel=>
     refine⟨k+1,by omega,by go_num,fun j hj h=> ?_,HB.o.trans (hb1.mono HB.o.size)⟩
     by_cases e:j=k
     ·subst e;exact HP.o
     ·exact HN.o j hj (by omega)
    case measure=>simp [intOf];omega
   ·go_ret
    exact⟨ret1 (fx_hit hlt HP.o (fun j hj h=>HN.o j hj h)).symm,HB.o.trans (hb1.mono HB.o.size)⟩
  ·go_wp2
   go_ret
   exact⟨ret1 (fx_miss (fun j hj=>HN.o j hj (by omega))).symm,HB.o⟩
theorem fcont_any (l:IL) (t:Int) (c:Nat) (w:World) (hin:l.In w) (hc:w.cell? ⟨c,0,none⟩ =some (.int .i64 t)) :
  Calls Tryd.prog 83 #[.slice l.h.ao l.l.length l.h.cap,.func (.func 120) #[] #[.pointer (some ⟨c,0,none⟩)]] w
   fun e w'=>e = .returned (.bool (l.l.any (neT t)))∧Below w.heap.size w w':=by
 have HA:=ai (fx_any (neT t) l.l)
 go_enter Tryd.func83,Tryd.ntmps83;go_wp2_with (go_at_call 100;refine(findex_any l t c _ hin hc).mono ?_;rintro e w1 ⟨rfl,hb1⟩)
 go_ret
 exact⟨by rw [←HA.o];rfl,hb1⟩
theorem every_any (l:IL) (t:Int) (w:World) (hin:l.In w) :
  Calls Tryd.prog 119 #[.int .i64 t,.slice l.h.ao l.l.length l.h.cap] w
   fun e w'=>e = .returned (.bool (alla t l.l))∧Below w.heap.size w w':=by
 have HA:=ai (any_neT t l.l);have HI:=ai (hin.mono (belA (.cells #[.int .i64 t] 3)))
 go_enter Tryd.func119,Tryd.ntmps119;go_wp2_with (go_at_call 83;refine(fcont_any l t w.heap.size _ HI.o (by simp [go_sem])).mono ?_;rintro e w1 ⟨rfl,hb1⟩)
 go_ret
 exact⟨by rw [←HA.o];rfl,bel1 hb1⟩
def fitB (ty:Int) (l:List Int) :Bool:=
 if ty=1 then alla 1 l else if ty=2 then alla 3 l else if ty=3 then alla 2 l else if ty=4 then alla (l.getD 0 0) l else if ty=6 then (l.getD 0 0 == 2) && (l.getD 1 0 == l.getD 2 0) else true
theorem fit_any (nm:ByteArray) (kd ty ow:Int) (l:IL) (w:World) (hin:l.In w) (h4:ty=4→0<l.l.length) (h6:ty=6→3≤l.l.length) :
  Calls Tryd.prog 104 #[.agg #[.string nm,.int .i64 kd,.int .i64 ty,.int .i64 ow],.slice l.h.ao l.l.length l.h.cap] w
   fun e w'=>e = .returned (.bool (fitB ty l.l))∧Below w.heap.size w w':=by
 have HI:=ai (hin.mono (belA (.cells #[.string nm,.int .i64 kd,.int .i64 ty,.int .i64 ow] 135)))
 unfold fitB
 by_cases e1:ty=1
 ·subst e1
  go_enter Tryd.func104,Tryd.ntmps104;go_wp2_with (go_at_call 119;refine(every_any l 1 _ HI.o).mono ?_;rintro e w1 ⟨rfl,hb1⟩)
  go_ret
  exact⟨rfl,bel1 hb1⟩
 by_cases e2:ty=2
 ·subst e2
  go_enter Tryd.func104,Tryd.ntmps104;go_wp2_with (go_at_call 119;refine(every_any l 3 _ HI.o).mono ?_;rintro e w1 ⟨rfl,hb1⟩)
  go_ret
  exact⟨rfl,bel1 hb1⟩
 by_cases e3:ty=3
 ·subst e3
  go_enter Tryd.func104,Tryd.ntmps104;go_wp2_with (go_at_call 119;refine(every_any l 2 _ HI.o).mono ?_;rintro e w1 ⟨rfl,hb1⟩)
  go_ret
  exact⟨rfl,bel1 hb1⟩
 by_cases e4:ty=4
 ·subst e4
  have hp:=h4 rfl;have HIX:=HI.o;have hix0: ∀U,(Instr.indexAt 22 (.slice l.h.ao l.l.length l.h.cap) (.int .i64 0)).run Tryd.prog U = .ok (.pointer (some ⟨l.h.b,l.h.o,none⟩)) U:=fun U=>by simpa using IL.ix HIX hp U
  have c0: (w.alloc (.cells #[.string nm,.int .i64 kd,.int .i64 4,.int .i64 ow] 135)).cell? ⟨l.h.b,l.h.o,none⟩ =some (.int .i64 l.l[0]):=by simpa only [Nat.add_zero]using int_at HIX.1 hp
  have hbk:=HIX.1.blk hp;have hlen:=hin.1.len;have hgd:l.l.getD 0 0=l.l[0]:=by simp [List.getD,hp]
  rw [hgd];clear HIX
  go_enter Tryd.func104,Tryd.ntmps104;go_wp2_with (go_at_call 119;refine(every_any l l.l[0] _ HI.o).mono ?_;rintro e w1 ⟨rfl,hb1⟩)
  go_ret
  exact⟨rfl,bel1 hb1⟩
 by_cases e6:ty=6
 ·subst e6
  have hp:=h6 rfl;have HIX:=HI.o;have p0:0<l.l.length:=by omega
  have p1:1<l.l.length:=by omega
  have p2:2<l.l.length:=by omega
  have hix0: ∀U,(Instr.indexAt 22 (.slice l.h.ao l.l.length l.h.cap) (.int .i64 0)).run Tryd.prog U = .ok (.pointer (some ⟨l.h.b,l.h.o,none⟩)) U:=fun U=>by simpa using IL.ix HIX p0 U
  have hix1: ∀U,(Instr.indexAt 22 (.slice l.h.ao l.l.length l.h.cap) (.int .i64 1)).run Tryd.prog U = .ok (.pointer (some ⟨l.h.b,l.h.o+1,none⟩)) U:=fun U=>by simpa using IL.ix HIX p1 U
  have hix2: ∀U,(Instr.indexAt 22 (.slice l.h.ao l.l.length l.h.cap) (.int .i64 2)).run Tryd.prog U = .ok (.pointer (some ⟨l.h.b,l.h.o+2,none⟩)) U:=fun U=>by simpa using IL.ix HIX p2 U
  have c0: (w.alloc (.cells #[.string nm,.int .i64 kd,.int .i64 6,.int .i64 ow] 135)).cell? ⟨l.h.b,l.h.o,none⟩ =some (.int .i64 l.l[0]):=by simpa only [Nat.add_zero]using int_at HIX.1 p0
  have hbk:=HIX.1.blk p0;have c1: (w.alloc (.cells #[.string nm,.int .i64 kd,.int .i64 6,.int .i64 ow] 135)).cell? ⟨l.h.b,l.h.o+1,none⟩ =some (.int .i64 l.l[1]):=by simpa only [Nat.add_zero]using int_at HIX.1 p1
  have c2: (w.alloc (.cells #[.string nm,.int .i64 kd,.int .i64 6,.int .i64 ow] 135)).cell? ⟨l.h.b,l.h.o+2,none⟩ =some (.int .i64 l.l[2]):=by simpa only [Nat.add_zero]using int_at HIX.1 p2
  have hg0:l.l.getD 0 0=l.l[0]:=by simp [List.getD,p0]
  have hg1:l.l.getD 1 0=l.l[1]:=by simp [List.getD,p1]
  have hg2:l.l.getD 2 0=l.l[2]:=by simp [List.getD,p2]
  rw [hg0,hg1,hg2];clear HIX hg0 hg1 hg2;have hd: ∃b,(l.l[0] == 2) =b:=⟨_,rfl⟩;obtain⟨b,hb⟩:=hd;rw [hb]
  cases b
  ·go_enter Tryd.func104,Tryd.ntmps104
   go_wp2
   go_quiet (fail)
   go_wp2;go_ret
   exact⟨rfl,below_drewN (belA _) _⟩
  ·go_enter Tryd.func104,Tryd.ntmps104
   go_wp2
   go_quiet (fail)
   go_wp2;go_ret
   exact⟨rfl,below_drewN (belA _) _⟩
 ·have e1': (ty == 1) =false:=by simpa using e1
  have e2': (ty == 2) =false:=by simpa using e2
  have e3': (ty == 3) =false:=by simpa using e3
  have e4': (ty == 4) =false:=by simpa using e4
  have e6': (ty == 6) =false:=by simpa using e6
  rw [if_neg e1,if_neg e2,if_neg e3,if_neg e4,if_neg e6]
  go_enter Tryd.func104,Tryd.ntmps104;go_wp2;go_ret
  exact⟨rfl,belA _⟩
end Go.Proofs.YtogalchclmmfgaaDoor
namespace Go.Proofs.YtogalchclmmfgaaDoor
open Go.RowKit
def cntB (i k:Int) (n:Nat) :Bool:=((n:Int) == k) || ((i == 28) && decide (k<n))
theorem box1 {w w1:World} {c d:Array Value} {T U:TypeId} (hb:Below ((w.alloc (.cells c T)).alloc (.cells d U)).heap.size ((w.alloc (.cells c T)).alloc (.cells d U)) w1) :Box w1 w.heap.size c T:=
 ((Box.new w c T).below (belA _)).below hb
theorem set4 (w:World) (g:Nat) (a b c d:Value) :w.grownBy ((((w.setCell ⟨g,0,none⟩ a).setCell ⟨g,1,none⟩ b).setCell ⟨g,2,none⟩ c).setCell ⟨g,3,none⟩ d) (some g):=
 ((gb_set _ _ _ _).trans (gb_set _ _ _ _)).trans (gb_set _ _ _ _) |>.trans (gb_set _ _ _ _)
theorem boxs4 {w:World} {g:Nat} {T:TypeId} {p q r s:Value} (h:Box w g #[p,q,r,s] T) (a b c d:Value) :Box ((((w.setCell ⟨g,0,none⟩ a).setCell ⟨g,1,none⟩ b).setCell ⟨g,2,none⟩ c).setCell ⟨g,3,none⟩ d) g #[a,b,c,d] T:=by
 have:=(((h.set 0 a).set 1 b).set 2 c).set 3 d
 simpa only [List.setIfInBounds_toArray,List.set_cons_zero,List.set_cons_succ]using this
theorem known_hit (nm:ByteArray) (kd ty ow:Int) (i:Nat) (hfind: ∀w:World,OpsAt w→Calls Tryd.prog 118 #[.int .i64 (i:Nat)] w fun e w'=>e = .returned (.tuple #[.agg #[.string nm,.int .i64 kd,.int .i64 ty,.int .i64 ow],.bool true])∧Below w.heap.size w w')
  (typ num:Int) (text:ByteArray) (col:Int) (ko:Option Addr) (n:Nat) (kc:Nat) (w:World) (hf:OpsAt w) :
  Calls Tryd.prog 101 #[.agg #[.int .i64 (i:Nat),.int .i64 typ,.int .i64 num,.string text,.int .i64 col,.slice ko n kc]] w
   fun e w'=>e = .returned (.tuple #[.agg #[.string nm,.int .i64 kd,.int .i64 ty,.int .i64 ow],.bool true,.bool (cntB i kd n)])∧Below w.heap.size w w':=by
 have HF:=ai (hf.mono (belAA (.cells #[.int .i64 (i:Nat),.int .i64 typ,.int .i64 num,.string text,.int .i64 col,.slice ko n kc] 45) (.cells #[.string ⟨#[]⟩,.int .i64 0,.int .i64 0,.int .i64 0] 135)));have HFD:=ai hfind;clear hf hfind;obtain⟨b1,h1⟩ : ∃b,((n:Int) == kd) =b:=⟨_,rfl⟩;obtain⟨b2,h2⟩ : ∃b,((i:Int) == 28) =b:=⟨_,rfl⟩;have HR:=ai (show cntB i kd n= (b1 || (b2 && decide (kd<n))) by unfold cntB;rw [h1,h2])
 cases b1
 ·cases b2
  ·have HR:=ai (HR.o.trans (show _=false from rfl))
   go_enter Tryd.func101,Tryd.ntmps101;go_wp2_with (go_at_call 118;refine(HFD.o _ HF.o).mono ?_;rintro e w1 ⟨rfl,hb1⟩;have HB:=ai hb1;have k0:=(box1 hb1).cell (j:=0) rfl;have f0:=(box2 hb1).fr 0;have f1:=(box2 hb1).fr 1;have f2:=(box2 hb1).fr 2;have f3:=(box2 hb1).fr 3;have e0:=(box2 hb1).cell (j:=0) rfl;have e1:=(box2 hb1).cell (j:=1) rfl;have e2:=(box2 hb1).cell (j:=2) rfl;have e3:=(box2 hb1).cell (j:=3) rfl;clear hb1)
   have hB2:=boxs4 (box2 HB.o) (.string nm) (.int .i64 kd) (.int .i64 ty) (.int .i64 ow);have hB1:=(box1 HB.o).grown (set4 w1 (w.heap.size+1) (.string nm) (.int .i64 kd) (.int .i64 ty) (.int .i64 ow)) (by simp)
   have hbl:=(bel2 HB.o).grown (set4 w1 (w.heap.size+1) (.string nm) (.int .i64 kd) (.int .i64 ty) (.int .i64 ow)) (bel2 HB.o).size (fun k hk=>by injection hk with hk;omega)
   clear k0 f0 f1 f2 f3 e0 e1 e2 e3 HB;generalize (((w1.setCell ⟨w.heap.size+1,0,none⟩ (.string nm)).setCell ⟨w.heap.size+1,1,none⟩ (.int .i64 kd)).setCell ⟨w.heap.size+1,2,none⟩ (.int .i64 ty)).setCell ⟨w.heap.size+1,3,none⟩ (.int .i64 ow) =W at *;have k0:=hB1.cell (j:=0) rfl
   have k5:=hB1.cell (j:=5) rfl
   have f0:=hB2.fr 0;have f1:=hB2.fr 1;have f2:=hB2.fr 2;have f3:=hB2.fr 3;have e0:=hB2.cell (j:=0) rfl
   have e1:=hB2.cell (j:=1) rfl
   have e2:=hB2.cell (j:=2) rfl
   have e3:=hB2.cell (j:=3) rfl
   have HBL:=ai hbl;clear hB1 hB2 hbl
   go_region
   go_wp2;exact bodyPost_ret (v:=.tuple #[.agg #[.string nm,.int .i64 kd,.int .i64 ty,.int .i64 ow],.bool true,.bool false]) (by simp [results,Tryd.results101,go_sem,e0,e1,e2,e3];try omega) rfl ⟨by rw [HR.o],(HBL.o.grown (set4 _ _ _ _ _ _) HBL.o.size (fun k hk=>by injection hk with hk;omega)).drew⟩
  ·by_cases h3:kd< (n:Int)
   ·have HR:=ai (HR.o.trans (show _=true by simp [h3]))
    go_enter Tryd.func101,Tryd.ntmps101;go_wp2_with (go_at_call 118;refine(HFD.o _ HF.o).mono ?_;rintro e w1 ⟨rfl,hb1⟩;have HB:=ai hb1;have k0:=(box1 hb1).cell (j:=0) rfl;have f0:=(box2 hb1).fr 0;have f1:=(box2 hb1).fr 1;have f2:=(box2 hb1).fr 2;have f3:=(box2 hb1).fr 3;have e0:=(box2 hb1).cell (j:=0) rfl;have e1:=(box2 hb1).cell (j:=1) rfl;have e2:=(box2 hb1).cell (j:=2) rfl;have e3:=(box2 hb1).cell (j:=3) rfl;clear hb1)
    have hB2:=boxs4 (box2 HB.o) (.string nm) (.int .i64 kd) (.int .i64 ty) (.int .i64 ow);have hB1:=(box1 HB.o).grown (set4 w1 (w.heap.size+1) (.string nm) (.int .i64 kd) (.int .i64 ty) (.int .i64 ow)) (by simp)
    have hbl:=(bel2 HB.o).grown (set4 w1 (w.heap.size+1) (.string nm) (.int .i64 kd) (.int .i64 ty) (.int .i64 ow)) (bel2 HB.o).size (fun k hk=>by injection hk with hk;omega)
    clear k0 f0 f1 f2 f3 e0 e1 e2 e3 HB;generalize (((w1.setCell ⟨w.heap.size+1,0,none⟩ (.string nm)).setCell ⟨w.heap.size+1,1,none⟩ (.int .i64 kd)).setCell ⟨w.heap.size+1,2,none⟩ (.int .i64 ty)).setCell ⟨w.heap.size+1,3,none⟩ (.int .i64 ow) =W at *;have k0:=hB1.cell (j:=0) rfl
    have k5:=hB1.cell (j:=5) rfl
    have f0:=hB2.fr 0;have f1:=hB2.fr 1;have f2:=hB2.fr 2;have f3:=hB2.fr 3;have e0:=hB2.cell (j:=0) rfl
    have e1:=hB2.cell (j:=1) rfl
    have e2:=hB2.cell (j:=2) rfl
    have e3:=hB2.cell (j:=3) rfl
    have HBL:=ai hbl;clear hB1 hB2 hbl
    go_region
    go_wp2;exact bodyPost_ret (v:=.tuple #[.agg #[.string nm,.int .i64 kd,.int .i64 ty,.int .i64 ow],.bool true,.bool true]) (by simp [results,Tryd.results101,go_sem,e0,e1,e2,e3];try omega) rfl ⟨by rw [HR.o],(HBL.o.grown (set4 _ _ _ _ _ _) HBL.o.size (fun k hk=>by injection hk with hk;omega)).drew⟩
   ·have HR:=ai (HR.o.trans (show _=false by simp [h3]))
    go_enter Tryd.func101,Tryd.ntmps101;go_wp2_with (go_at_call 118;refine(HFD.o _ HF.o).mono ?_;rintro e w1 ⟨rfl,hb1⟩;have HB:=ai hb1;have k0:=(box1 hb1).cell (j:=0) rfl;have f0:=(box2 hb1).fr 0;have f1:=(box2 hb1).fr 1;have f2:=(box2 hb1).fr 2;have f3:=(box2 hb1).fr 3;have e0:=(box2 hb1).cell (j:=0) rfl;have e1:=(box2 hb1).cell (j:=1) rfl;have e2:=(box2 hb1).cell (j:=2) rfl;have e3:=(box2 hb1).cell (j:=3) rfl;clear hb1)
    have hB2:=boxs4 (box2 HB.o) (.string nm) (.int .i64 kd) (.int .i64 ty) (.int .i64 ow);have hB1:=(box1 HB.o).grown (set4 w1 (w.heap.size+1) (.string nm) (.int .i64 kd) (.int .i64 ty) (.int .i64 ow)) (by simp)
    have hbl:=(bel2 HB.o).grown (set4 w1 (w.heap.size+1) (.string nm) (.int .i64 kd) (.int .i64 ty) (.int .i64 ow)) (bel2 HB.o).size (fun k hk=>by injection hk with hk;omega)
    clear k0 f0 f1 f2 f3 e0 e1 e2 e3 HB;generalize (((w1.setCell ⟨w.heap.size+1,0,none⟩ (.string nm)).setCell ⟨w.heap.size+1,1,none⟩ (.int .i64 kd)).setCell ⟨w.heap.size+1,2,none⟩ (.int .i64 ty)).setCell ⟨w.heap.size+1,3,none⟩ (.int .i64 ow) =W at *;have k0:=hB1.cell (j:=0) rfl
    have k5:=hB1.cell (j:=5) rfl
    have f0:=hB2.fr 0;have f1:=hB2.fr 1;have f2:=hB2.fr 2;have f3:=hB2.fr 3;have e0:=hB2.cell (j:=0) rfl
    have e1:=hB2.cell (j:=1) rfl
    have e2:=hB2.cell (j:=2) rfl
    have e3:=hB2.cell (j:=3) rfl
    have HBL:=ai hbl;clear hB1 hB2 hbl
    go_region
    go_wp2;exact bodyPost_ret (v:=.tuple #[.agg #[.string nm,.int .i64 kd,.int .i64 ty,.int .i64 ow],.bool true,.bool false]) (by simp [results,Tryd.results101,go_sem,e0,e1,e2,e3];try omega) rfl ⟨by rw [HR.o],(HBL.o.grown (set4 _ _ _ _ _ _) HBL.o.size (fun k hk=>by injection hk with hk;omega)).drew⟩
 ·have HR:=ai (HR.o.trans (show _=true from rfl))
  go_enter Tryd.func101,Tryd.ntmps101;go_wp2_with (go_at_call 118;refine(HFD.o _ HF.o).mono ?_;rintro e w1 ⟨rfl,hb1⟩;have HB:=ai hb1;have k0:=(box1 hb1).cell (j:=0) rfl;have f0:=(box2 hb1).fr 0;have f1:=(box2 hb1).fr 1;have f2:=(box2 hb1).fr 2;have f3:=(box2 hb1).fr 3;have e0:=(box2 hb1).cell (j:=0) rfl;have e1:=(box2 hb1).cell (j:=1) rfl;have e2:=(box2 hb1).cell (j:=2) rfl;have e3:=(box2 hb1).cell (j:=3) rfl;clear hb1)
  have hB2:=boxs4 (box2 HB.o) (.string nm) (.int .i64 kd) (.int .i64 ty) (.int .i64 ow);have hB1:=(box1 HB.o).grown (set4 w1 (w.heap.size+1) (.string nm) (.int .i64 kd) (.int .i64 ty) (.int .i64 ow)) (by simp)
  have hbl:=(bel2 HB.o).grown (set4 w1 (w.heap.size+1) (.string nm) (.int .i64 kd) (.int .i64 ty) (.int .i64 ow)) (bel2 HB.o).size (fun k hk=>by injection hk with hk;omega)
  clear k0 f0 f1 f2 f3 e0 e1 e2 e3 HB;generalize (((w1.setCell ⟨w.heap.size+1,0,none⟩ (.string nm)).setCell ⟨w.heap.size+1,1,none⟩ (.int .i64 kd)).setCell ⟨w.heap.size+1,2,none⟩ (.int .i64 ty)).setCell ⟨w.heap.size+1,3,none⟩ (.int .i64 ow) =W at *;have k0:=hB1.cell (j:=0) rfl
  have k5:=hB1.cell (j:=5) rfl
  have f0:=hB2.fr 0;have f1:=hB2.fr 1;have f2:=hB2.fr 2;have f3:=hB2.fr 3;have e0:=hB2.cell (j:=0) rfl
  have e1:=hB2.cell (j:=1) rfl
  have e2:=hB2.cell (j:=2) rfl
  have e3:=hB2.cell (j:=3) rfl
  have HBL:=ai hbl;clear hB1 hB2 hbl
  go_region
  go_wp2;exact bodyPost_ret (v:=.tuple #[.agg #[.string nm,.int .i64 kd,.int .i64 ty,.int .i64 ow],.bool true,.bool true]) (by simp [results,Tryd.results101,go_sem,e0,e1,e2,e3];try omega) rfl ⟨by rw [HR.o],(HBL.o.grown (set4 _ _ _ _ _ _) HBL.o.size (fun k hk=>by injection hk with hk;omega)).drew⟩
theorem known_miss (op typ num:Int) (text:ByteArray) (col:Int) (ko:Option Addr) (n:Nat) (kc:Nat) (hop:op<1∨28<op) (w:World) (hf:OpsAt w) :
  Calls Tryd.prog 101 #[.agg #[.int .i64 op,.int .i64 typ,.int .i64 num,.string text,.int .i64 col,.slice ko n kc]] w
   fun e w'=>e = .returned (.tuple #[.agg #[.string ⟨#[]⟩,.int .i64 0,.int .i64 0,.int .i64 0],.bool false,.bool false])∧Below w.heap.size w w':=by
 have HF:=ai (hf.mono (belAA (.cells #[.int .i64 op,.int .i64 typ,.int .i64 num,.string text,.int .i64 col,.slice ko n kc] 45) (.cells #[.string ⟨#[]⟩,.int .i64 0,.int .i64 0,.int .i64 0] 135)));clear hf
 go_enter Tryd.func101,Tryd.ntmps101;go_wp2_with (go_at_call 118;refine(find_none op hop _ HF.o).mono ?_;rintro e w1 ⟨rfl,hb1⟩;have HB:=ai hb1;have k0:=(box1 hb1).cell (j:=0) rfl;have f0:=(box2 hb1).fr 0;have f1:=(box2 hb1).fr 1;have f2:=(box2 hb1).fr 2;have f3:=(box2 hb1).fr 3;have e0:=(box2 hb1).cell (j:=0) rfl;have e1:=(box2 hb1).cell (j:=1) rfl;have e2:=(box2 hb1).cell (j:=2) rfl;have e3:=(box2 hb1).cell (j:=3) rfl;clear hb1)
 have hB2:=boxs4 (box2 HB.o) (.string ⟨#[]⟩) (.int .i64 0) (.int .i64 0) (.int .i64 0);have hB1:=(box1 HB.o).grown (set4 w1 (w.heap.size+1) (.string ⟨#[]⟩) (.int .i64 0) (.int .i64 0) (.int .i64 0)) (by simp)
 have hbl:=(bel2 HB.o).grown (set4 w1 (w.heap.size+1) (.string ⟨#[]⟩) (.int .i64 0) (.int .i64 0) (.int .i64 0)) (bel2 HB.o).size (fun k hk=>by injection hk with hk;omega)
 clear k0 f0 f1 f2 f3 e0 e1 e2 e3 HB;generalize (((w1.setCell ⟨w.heap.size+1,0,none⟩ (.string ⟨#[]⟩)).setCell ⟨w.heap.size+1,1,none⟩ (.int .i64 0)).setCell ⟨w.heap.size+1,2,none⟩ (.int .i64 0)).setCell ⟨w.heap.size+1,3,none⟩ (.int .i64 0) =W at *;have k0:=hB1.cell (j:=0) rfl
 have k5:=hB1.cell (j:=5) rfl
 have f0:=hB2.fr 0;have f1:=hB2.fr 1;have f2:=hB2.fr 2;have f3:=hB2.fr 3;have e0:=hB2.cell (j:=0) rfl
 have e1:=hB2.cell (j:=1) rfl
 have e2:=hB2.cell (j:=2) rfl
 have e3:=hB2.cell (j:=3) rfl
 have HBL:=ai hbl;clear hB1 hB2 hbl
 go_region
 go_wp2;exact bodyPost_ret (v:=.tuple #[.agg #[.string ⟨#[]⟩,.int .i64 0,.int .i64 0,.int .i64 0],.bool false,.bool false]) (by simp [results,Tryd.results101,go_sem,e0,e1,e2,e3];try omega) rfl ⟨rfl,(HBL.o.grown (set4 _ _ _ _ _ _) HBL.o.size (fun k hk=>by injection hk with hk;omega)).drew⟩
end Go.Proofs.YtogalchclmmfgaaDoor
namespace Go.Proofs.YtogalchclmmfgaaDoor
open Go.RowKit
def isT (t:Int) :Bool:=decide (1≤t∧t≤3)
def kidsOk (op:Int) (n:Nat) :Bool:=
 if op≤5 then decide (n=0) else if op=11∨op=13∨op=21∨op=24∨op=25 then decide (n=1) else if op=26 then decide (n=3) else if op=28 then decide (2≤n) else decide (n=2)
def resE (ts:List Int) (op typ col:Int) (l:List Int) :Int:=
 if op=1 then typ else if op=2 then 1 else if op=3 then 2 else if op=4 then 3 else if op=5 then ts.getD col.toNat 0
 else if op≤11 then (if alla 1 l then 1 else 0)
 else if op=12 then (if alla 3 l then 3 else 0)
 else if op=13 then (if alla 3 l then 1 else 0)
 else if op=21 then 2
 else if 22≤op∧op≤25 then (if alla 2 l then 2 else 0)
 else if op=26 then (if (l.getD 0 0 == 2) && (l.getD 1 0 == l.getD 2 0) then l.getD 1 0 else 0)
 else if op=27 then (if l.getD 0 0 == l.getD 1 0 then l.getD 0 0 else 0)
 else (if alla (l.getD 0 0) l then 2 else 0)
noncomputable def topT (ts:List Int) (op typ num:Int) (text:ByteArray) (col:Int) (l:List Int) :Int×Int:=
 if¬((1≤op∧op≤28)∧plainE op typ num text col=true) then (0,1)
 else if¬(kidsOk op l.length=true) then (0,9)
 else if op=5∧(col<0∨(ts.length:Int)≤col) then (0,3)
 else if isT (resE ts op typ col l) =true then (resE ts op typ col l,0) else (0,4)
noncomputable def topF (ts:List Int) (op typ num:Int) (text:ByteArray) (col:Int) (L:List (Int×Int)) :Int×Int:=
 match L.find? (fun p=>p.2 != 0)with
 | some p=>(0,p.2)
 | none=>topT ts op typ num text col (L.map (·.1))
mutual
noncomputable def Ex.ty (ts:List Int) :Ex→Int×Int
 | ⟨op,typ,num,text,col,_,kids⟩=>topF ts op typ num text col (Ex.tyL ts kids)
noncomputable def Ex.tyL (ts:List Int) :List Ex→List (Int×Int)
 | []=> []
 | k :: r=>Ex.ty ts k :: Ex.tyL ts r
end
theorem Ex.tyL_eq (ts:List Int) : ∀l:List Ex,Ex.tyL ts l=l.map (Ex.ty ts)
 | []=>by simp [Ex.tyL]
 | k :: r=>by simp [Ex.tyL,Ex.tyL_eq ts r]
theorem Ex.ty_eq (ts:List Int) (op typ num:Int) (text:ByteArray) (col:Int) (kh:Hd) (kids:List Ex) :Ex.ty ts ⟨op,typ,num,text,col,kh,kids⟩ =topF ts op typ num text col (kids.map (Ex.ty ts)):=by
 rw [Ex.ty,Ex.tyL_eq]
theorem topT_ok {ts:List Int} {op typ num:Int} {text:ByteArray} {col:Int} {l:List Int} (h: (topT ts op typ num text col l).2=0) :isT (topT ts op typ num text col l).1=true:=by
 unfold topT at h ⊢
 split at h
 ·cases h
 ·split at h
  ·cases h
  ·split at h
   ·cases h
   ·split at h
    ·rename_i h1 h2 h3 h4
     rw [if_neg h1,if_neg h2,if_neg h3,if_pos h4];exact h4
    ·cases h
theorem ty_ok {ts:List Int} {e:Ex} (h: (e.ty ts).2=0) :isT (e.ty ts).1=true:=by
 obtain⟨op,typ,num,text,col,kh,kids⟩:=e;rw [Ex.ty_eq]at h ⊢
 unfold topF at h ⊢
 split at h
 ·rename_i p hp
  have:=List.find?_some hp;have h':p.2=0:=h;rw [h']at this
  cases this
 ·exact topT_ok h
theorem topF_err {ts:List Int} {op typ num:Int} {text:ByteArray} {col:Int} {kids:List Ex} {k:Nat} (hk:k<kids.length) (he: ¬((kids[k].ty ts).2=0)) (hn: ∀j (hj:j<kids.length),j<k→(kids[j].ty ts).2=0) :
  topF ts op typ num text col (kids.map (Ex.ty ts)) = (0,(kids[k].ty ts).2):=by
 have: (kids.map (Ex.ty ts)).find? (fun p=>p.2 != 0) =some (kids[k].ty ts):=by
  rw [List.find?_eq_some_iff_getElem];refine⟨by simpa using he,k,by simpa using hk,by simp,fun j hj=> ?_⟩
  have:=hn j (by omega) hj
  simp [this]
 unfold topF
 rw [this]
theorem topF_all {ts:List Int} {op typ num:Int} {text:ByteArray} {col:Int} {kids:List Ex} (hn: ∀j (hj:j<kids.length),(kids[j].ty ts).2=0) :
  topF ts op typ num text col (kids.map (Ex.ty ts)) =topT ts op typ num text col (kids.map fun x=>(x.ty ts).1):=by
 have: (kids.map (Ex.ty ts)).find? (fun p=>p.2 != 0) =none:=by
  rw [List.find?_eq_none];intro p hp;obtain⟨x,hx,rfl⟩:=List.mem_map.1 hp;obtain⟨j,hj,rfl⟩:=List.getElem_of_mem hx;simp [hn j hj]
 unfold topF
 rw [this];simp [List.map_map,Function.comp_def]
def progT (ts:List Int) (i:Nat) (typ col:Int) (l:List Int) (ty ow:Int) :Int×Int:=
 if (i:Int) =5 then (if isT (ts.getD col.toNat 0) then (ts.getD col.toNat 0,0) else (0,4))
 else if fitB ty l=false then (0,4)
 else if (i:Int) =1 then (typ,0) else if ow=0 then (l.getD (l.length - 1) 0,0) else (ow,0)
theorem kids_cnt (i:Nat) (hi:i<ops.length) (h0:0<i) (n:Nat) :cntB i ops[i].2.1 n=kidsOk i n:=by
 have hl:=ops_len;have hc:i=1∨i=2∨i=3∨i=4∨i=5∨i=6∨i=7∨i=8∨i=9∨i=10∨i=11∨i=12∨i=13∨i=14∨i=15∨i=16∨i=17∨i=18∨i=19∨i=20∨i=21∨i=22∨i=23∨i=24∨i=25∨i=26∨i=27∨i=28:=by omega
 rcases hc with rfl|rfl|rfl|rfl|rfl|rfl|rfl|rfl|rfl|rfl|rfl|rfl|rfl|rfl|rfl|rfl|rfl|rfl|rfl|rfl|rfl|rfl|rfl|rfl|rfl|rfl|rfl|rfl
 all_goals simp [ops,cntB,kidsOk]
 all_goals (rw [Bool.eq_iff_iff];simp;first|done|omega| (constructor<;>intro h<;>first| (rcases h with h|h<;>first|omega| (have h': (2:Int) <n:=of_decide_eq_true h;omega)) | (by_cases e:n=2;(left;omega);(right;exact decide_eq_true (show(2:Int) <n by omega)))))
theorem isT_ne {t:Int} (h:isT t=true) :1≤t∧t≤3:=by unfold isT at h;exact of_decide_eq_true h
theorem len2 {l:List Int} (h:l.length=2) : ∃a b,l = [a,b]:=by
 match l,h with
 | [a,b],_=>exact⟨a,b,rfl⟩
theorem len3 {l:List Int} (h:l.length=3) : ∃a b c,l = [a,b,c]:=by
 match l,h with
 | [a,b,c],_=>exact⟨a,b,c,rfl⟩
theorem prog_res (ts:List Int) (i:Nat) (hi:i<ops.length) (h0:0<i) (typ col:Int) (l:List Int) (hk:kidsOk i l.length=true) (hl: ∀t∈l,isT t=true) (h1:i=1→isT typ=true) :
  progT ts i typ col l ops[i].2.2.1 ops[i].2.2.2=if isT (resE ts i typ col l) =true then (resE ts i typ col l,0) else (0,4):=by
 have hlen:=ops_len;by_cases h26:i=26
 ·subst h26
  obtain⟨a,b,c,rfl⟩:=len3 (l:=l) (by simpa [kidsOk]using hk)
  have ha:=hl a (by simp)
  have hb:=hl b (by simp)
  have hc:=hl c (by simp)
  simp only [progT,resE,fitB,ops];by_cases e1:a=2
  ·by_cases e2:b=c
   ·subst e1;subst e2;simp [hb]
   ·subst e1;simp [e2,isT]
  ·simp [e1,isT]
 by_cases h27:i=27
 ·subst h27
  obtain⟨a,b,rfl⟩:=len2 (l:=l) (by simpa [kidsOk]using hk)
  have ha:=hl a (by simp)
  have hb:=hl b (by simp)
  simp only [progT,resE,fitB,ops,alla];by_cases e1:a=b
  ·subst e1;simp [ha]
  ·simp [e1,Ne.symm e1,isT]
 have hc:i=1∨i=2∨i=3∨i=4∨i=5∨i=6∨i=7∨i=8∨i=9∨i=10∨i=11∨i=12∨i=13∨i=14∨i=15∨i=16∨i=17∨i=18∨i=19∨i=20∨i=21∨i=22∨i=23∨i=24∨i=25∨i=28:=by omega
 rcases hc with rfl|rfl|rfl|rfl|rfl|rfl|rfl|rfl|rfl|rfl|rfl|rfl|rfl|rfl|rfl|rfl|rfl|rfl|rfl|rfl|rfl|rfl|rfl|rfl|rfl|rfl
 all_goals simp [progT,resE,fitB,ops]
 all_goals first
  | exact h1 rfl
  | rfl
  | (generalize alla _ _=b;cases b<;>simp [isT])
end Go.Proofs.YtogalchclmmfgaaDoor

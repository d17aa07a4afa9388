/- querylabfield's tape: Mod, Raw, N, Range at any tape. -/
import Derived.Test.YtiijaaohphokcaaGreatDoorG05
import Derived.Test.YtiijaaohphokcaaGreatDoorCjCK
import Derived.Deep.QuietTactic
import Derived.BigQuiet
import Derived.Deep.DeepCutAuto
import Derived.Maps.AppendAt
set_option maxRecDepth 100000
set_option maxHeartbeats 16000000
namespace Go.Proofs.YtiijaaohphokcaaGreatDoor
open Go.RowKit
structure TapeIn (w:World) (b:Nat) (L:IL) (a:Nat) :Prop where
 lst:w.cell? ⟨b,0,none⟩ =some (.slice L.h.ao L.l.length L.h.cap)
 pos:w.cell? ⟨b,1,none⟩ =some (.int .i64 (a:Nat))
 fr:w.frozen? ⟨b,1,none⟩ =false
 row:L.In w
 ne:0<L.l.length→L.h.b≠b
theorem TapeIn.lt {w:World} {b a:Nat} {L:IL} (h:TapeIn w b L a) :b<w.heap.size:=World.block_lt_of_cell? w ⟨b,0,none⟩ h.lst
theorem TapeIn.mono {w w':World} {b a:Nat} {L:IL} (h:TapeIn w b L a) (hb:Below w.heap.size w w') :TapeIn w' b L a:=
 ⟨by rw [hb.cell (p:=⟨b,0,none⟩) h.lt];exact h.lst,by rw [hb.cell (p:=⟨b,1,none⟩) h.lt];exact h.pos,by rw [hb.frozen (p:=⟨b,1,none⟩) h.lt];exact h.fr,h.row.mono hb,h.ne⟩
def modn (x n:Int) :Int:=if x.tmod n<0 then x.tmod n+n else x.tmod n
theorem modn_ok {x n:Int} (hn:1≤n) :0≤modn x n∧modn x n<n:=by
 have h1:=Int.tmod_lt_of_pos x (show 0<n by omega)
 have h2:=Int.lt_tmod_of_pos x (show 0<n by omega)
 unfold modn
 split<;>omega
theorem row_grown {α:Type} {w w':World} {size b:Nat} {cells:α→List Value} {h:Hd} {xs:List α} (hr:Row w size cells h xs) (hg:w.grownBy w' (some b)) (hne:0<xs.length→h.b≠b) :Row w' size cells h xs:=by
 obtain⟨h1,h2,h3,h4⟩:=hr;refine⟨h1,h2,fun hp=>⟨(h3 hp).1,Nat.lt_of_lt_of_le (h3 hp).2 hg.size⟩,fun i hi j v hv=> ?_⟩
 have hp:0<xs.length:=by omega
 rw [World.cell?_of_block (w:=w) (a:=⟨h.b,_,none⟩) (hg.block h.b (h3 hp).2 (by simpa using hne hp))]
 exact h4 i hi j v hv
theorem tape_step {w:World} {b a:Nat} {L:IL} (h:TapeIn w b L a) (n:Nat) :TapeIn ((w.drewN n).setCell ⟨b,1,none⟩ (.int .i64 ((a:Int) +1))) b L (a+1)∧w.grownBy ((w.drewN n).setCell ⟨b,1,none⟩ (.int .i64 ((a:Int) +1))) (some b):=by
 have hg:w.grownBy ((w.drewN n).setCell ⟨b,1,none⟩ (.int .i64 ((a:Int) +1))) (some b):=
  ⟨rfl,rfl,rfl,by simp [World.drewN],fun k _ hk=>Below.heap_setCell _ _ _ _ (fun e=>hk (by rw [e]))⟩
 refine⟨⟨?_,?_,?_,⟨row_grown h.row.1 hg h.ne,h.row.2⟩,h.ne⟩,hg⟩
 ·have h0:=h.lst
  simp [go_sem,h0]
 ·have h1:=h.pos
  simp [go_sem,h1]
 ·have h1:=h.fr
  simp [go_sem,h1]
def rawAt (L:IL) (a:Nat) :Int:=if h:a<L.l.length then L.l[a] else 0
def posAt (L:IL) (a:Nat) :Nat:=if a<L.l.length then a+1 else a
def fmod (x n:Int) :Int:=if n<1 then 0 else modn x n
theorem mod_any (x n:Int) (hn:int64 n) (w:World) :Calls Tryz.prog 42 #[.int .i64 x,.int .i64 n] w fun e w'=>e = .returned (.int .i64 (fmod x n))∧w'=w:=by
 by_cases h1:n<1
 ·have hf:fmod x n=0:=if_pos h1
  rw [hf]
  go_enter Tryz.func42,Tryz.ntmps42;go_wp2;go_ret
  exact⟨rfl,rfl⟩
 ·have hf:fmod x n=modn x n:=if_neg h1
  have hn2:=hn.2;have hr1:=Int.tmod_lt_of_pos x (show 0<n by omega)
  have hr2:=Int.lt_tmod_of_pos x (show 0<n by omega)
  rw [hf];by_cases h2:x.tmod n<0
  ·have hm:modn x n=x.tmod n+n:=if_pos h2
   have hw:IntKind.i64.wrap (x.tmod n+n) =x.tmod n+n:=by rw [IntKind.wrap_i64];omega
   rw [hm]
   go_enter Tryz.func42,Tryz.ntmps42;go_wp2;go_ret
   exact⟨by simp [go_sem],rfl⟩
  ·have hm:modn x n=x.tmod n:=if_neg h2
   rw [hm]
   go_enter Tryz.func42,Tryz.ntmps42;go_wp2;go_ret
   exact⟨by simp [go_sem],rfl⟩
theorem TapeIn.draws {w:World} {b a:Nat} {L:IL} (h:TapeIn w b L a) (n:Nat) :TapeIn (w.drewN n) b L a:=h.mono ⟨rfl,rfl,rfl,Nat.le_refl _,fun _ _=>rfl⟩
theorem grown_draws {w x:World} {b:Option Nat} (h:w.grownBy x b) (n:Nat) :w.grownBy (x.drewN n) b:=⟨h.os,h.tape,h.output,h.size,h.block⟩
theorem raw_any (w:World) (b a:Nat) (L:IL) (ht:TapeIn w b L a) (ha:a≤4611686018427387904) :
  Calls Tryz.prog 43 #[.pointer (some ⟨b,0,none⟩)] w fun e w'=>e = .returned (.int .i64 (rawAt L a))∧TapeIn w' b L (posAt L a)∧w.grownBy w' (some b):=by
 have h0:=ht.lst;have h1:=ht.pos;have hf:=ht.fr;have hl:=ht.row.1.len;have HT:=ai ht;clear ht;by_cases hlt:a<L.l.length
 ·have hlti: (a:Int) <L.l.length:=by omega
  have hix:=HT.o.row.1.ix hlt Tryz.underlying22 szil;have c0:=int_at HT.o.row.1 hlt;have hr:rawAt L a=L.l[a]:=by unfold rawAt;rw [dif_pos hlt]
  have hp:posAt L a=a+1:=if_pos hlt;rw [hr,hp];obtain⟨x,hx⟩ : ∃x,L.l[a] =x:=⟨_,rfl⟩;rw [hx]at c0 ⊢;clear hr hp
  go_enter Tryz.func43,Tryz.ntmps43;go_wp2
  go_quiet (fail)
  go_upto_region 4 with fail
  have HS:=ai (tape_step HT.o nq);obtain⟨X,hX⟩ : ∃X,(w.drewN nq).setCell ⟨b,1,none⟩ (.int .i64 ((a:Int) +1)) =X:=⟨_,rfl⟩;rw [hX]at HS ⊢;have h0:=HS.o.1.lst;have h1:=HS.o.1.pos;have hix:=HS.o.1.row.1.ix hlt Tryz.underlying22 szil;have c0:=int_at HS.o.1.row.1 hlt;rw [hx]at c0;have hws:IntKind.i64.wrap (((a+1:Nat) :Int) - 1) = (a:Int):=by rw [IntKind.wrap_i64];omega
  clear hX hx;go_wp2
  go_quiet (fail)
  go_wp2;go_ret
  exact⟨rfl,HS.o.1.draws _,grown_draws HS.o.2 _⟩
 ·have hlti: ¬(a:Int) <L.l.length:=by omega
  have hr:rawAt L a=0:=by unfold rawAt;rw [dif_neg hlt]
  have hp:posAt L a=a:=if_neg hlt;rw [hr,hp];clear hr hp
  go_enter Tryz.func43,Tryz.ntmps43;go_wp2
  go_quiet (fail)
  go_wp2;go_ret
  exact⟨rfl,HT.o.draws _,grown_draws (World.grownBy.refl _ _) _⟩
def nAt (L:IL) (a:Nat) (n:Int) :Int:=fmod (rawAt L a) n
theorem fmod_ok {x n:Int} (hn:1≤n) :0≤fmod x n∧fmod x n<n:=by
 unfold fmod
 rw [if_neg (by omega)]
 exact modn_ok hn
theorem n_any (w:World) (b a:Nat) (L:IL) (n:Int) (ht:TapeIn w b L a) (ha:a≤4611686018427387904) (hn:int64 n) :
  Calls Tryz.prog 10 #[.pointer (some ⟨b,0,none⟩),.int .i64 n] w fun e w'=>e = .returned (.int .i64 (nAt L a n))∧TapeIn w' b L (posAt L a)∧w.grownBy w' (some b):=by
 have HT:=ai ht;clear ht
 go_enter Tryz.func10,Tryz.ntmps10;go_wp2_with (first
  | (go_at_call 43;refine(raw_any _ b a L HT.o ha).mono ?_;rintro e w1 ⟨rfl,h1,h2⟩;have HT1:=ai h1;have HG1:=ai h2;clear h1 h2)
  | (go_at_call 42;refine(mod_any _ _ hn _).mono ?_;rintro e w2 ⟨rfl,rfl⟩))
 go_ret
 exact⟨rfl,HT1.o,HG1.o⟩
theorem range_any (w:World) (b a:Nat) (L:IL) (lo hi:Int) (ht:TapeIn w b L a) (ha:a≤4611686018427387904) (hlo : -1000000≤lo∧lo≤hi∧hi≤1000000) :
  Calls Tryz.prog 38 #[.pointer (some ⟨b,0,none⟩),.int .i64 lo,.int .i64 hi] w fun e w'=>e = .returned (.int .i64 (lo+nAt L a (hi - lo+1)))∧TapeIn w' b L (posAt L a)∧w.grownBy w' (some b):=by
 have hn:=fmod_ok (x:=rawAt L a) (n:=hi - lo+1) (by omega)
 have hw1:IntKind.i64.wrap (hi - lo) =hi - lo:=by rw [IntKind.wrap_i64];omega
 have hw2:IntKind.i64.wrap (hi - lo+1) =hi - lo+1:=by rw [IntKind.wrap_i64];omega
 have hw3:IntKind.i64.wrap (lo+nAt L a (hi - lo+1)) =lo+nAt L a (hi - lo+1):=by unfold nAt;rw [IntKind.wrap_i64];omega
 have HT:=ai ht;obtain⟨m,hm⟩ : ∃m,hi - lo+1=m:=⟨_,rfl⟩;have hm64:int64 m:=by constructor<;>omega
 have hw2m:IntKind.i64.wrap (hi - lo+1) =m:=hw2.trans hm;rw [hm]at hw3 ⊢;clear ht hn hm hw2
 go_enter Tryz.func38,Tryz.ntmps38;go_wp2_with (go_at_call 10;refine(n_any _ b a L m HT.o ha hm64).mono ?_;rintro e w1 ⟨rfl,h1,h2⟩;have HT1:=ai h1;have HG1:=ai h2;clear h1 h2)
 go_ret
 exact⟨rfl,HT1.o,HG1.o⟩
end Go.Proofs.YtiijaaohphokcaaGreatDoor
/- querylabfield.New at any list. -/
namespace Go.Proofs.YtiijaaohphokcaaGreatDoor
open Go.RowKit
theorem fnew_any (L:IL) (w:World) (hL:L.In w) :Calls Tryz.prog 7 #[.slice L.h.ao L.l.length L.h.cap] w fun e w'=>∃L':IL,L'.l=L.l.take 2000∧e = .returned (.pointer (some ⟨w.heap.size,0,none⟩))∧TapeIn w' w.heap.size L' 0∧Below w.heap.size w w':=by
 have hl:=hL.1.len;have hcap:=hL.1.2.1;have hc:=hL.1.1;have hn: (min (L.l.length:Int) 2000).toNat= (L.l.take 2000).length:=by rw [List.length_take];omega
 have HIN:=ai (show IL.In w ⟨L.h,L.l.take 2000⟩from by
  obtain⟨⟨h1,h2,h3,h4⟩,h5⟩:=hL;refine⟨⟨Nat.le_trans (by rw [List.length_take];omega) h1,h2,fun hp=>h3 (by rw [List.length_take]at hp;omega),fun i hi j v hv=> ?_⟩,fun n hn=>h5 n (List.mem_of_mem_take hn)⟩
  have hi2:i<L.l.length:=by rw [List.length_take]at hi;omega
  rw [List.getElem_take]at hv;exact h4 i hi2 j v hv)
 have hlt: ∀hp:0<L.l.length,L.h.b<w.heap.size:=fun hp=>hL.1.blk hp
 clear hL;have hfin: ∀W:World,W=w.alloc (.cells #[.slice L.h.ao (min (L.l.length:Int) 2000).toNat L.h.cap,.int .i64 0] 68)→TapeIn W w.heap.size ⟨L.h,L.l.take 2000⟩ 0∧Below w.heap.size w W:=by
  rintro W rfl;have hb:Below w.heap.size w (w.alloc (.cells #[.slice L.h.ao (min (L.l.length:Int) 2000).toNat L.h.cap,.int .i64 0] 68)):=(Below.refl _ w).alloc (Nat.le_refl _) _;refine⟨⟨?_,?_,?_,HIN.o.mono hb,fun hp=> ?_⟩,hb⟩
  ·rw [World.cell?_alloc_at _ _ _ _ rfl,hn];rfl
  ·rw [World.cell?_alloc_at _ _ _ _ rfl];rfl
  ·exact World.frozen?_alloc_new w _ _ _
  ·have:=hlt (by rw [List.length_take]at hp;omega);show L.h.b≠w.heap.size;omega
 have HF:=ai hfin;clear hfin hn hlt;by_cases h:L.l.length≤2000
 ·have h2: (L.l.length:Int)≤2000:=by omega
  go_enter Tryz.func7,Tryz.ntmps7;go_wp2;go_ret
  exact⟨⟨L.h,L.l.take 2000⟩,rfl,rfl,HF.o _ (by first|rfl| (rw [show(min (L.l.length:Int) 2000).toNat=L.l.length by omega]) | (rw [show(min (L.l.length:Int) 2000).toNat=2000 by omega]))⟩
 ·have h2: ¬(L.l.length:Int)≤2000:=by omega
  go_enter Tryz.func7,Tryz.ntmps7;go_wp2;go_ret
  exact⟨⟨L.h,L.l.take 2000⟩,rfl,rfl,HF.o _ (by first|rfl| (rw [show(min (L.l.length:Int) 2000).toNat=L.l.length by omega]) | (rw [show(min (L.l.length:Int) 2000).toNat=2000 by omega]))⟩
end Go.Proofs.YtiijaaohphokcaaGreatDoor
/- (*querylabfield.Tape).Pick at any list that is not the tape's own block. -/
namespace Go.Proofs.YtiijaaohphokcaaGreatDoor
open Go.RowKit
theorem il_grown {w w':World} {M:IL} {b:Nat} (h:M.In w) (hg:w.grownBy w' (some b)) (hne:0<M.l.length→M.h.b≠b) :M.In w':=⟨row_grown h.1 hg hne,h.2⟩
theorem pick_any (w:World) (b a:Nat) (L M:IL) (ht:TapeIn w b L a) (ha:a≤4611686018427387904) (hM:M.In w) (hp:0<M.l.length) (hne:M.h.b≠b) :
  Calls Tryz.prog 39 #[.pointer (some ⟨b,0,none⟩),.slice M.h.ao M.l.length M.h.cap] w fun e w'=>(∃k,∃h:k<M.l.length,(k:Int) =nAt L a M.l.length∧e = .returned (.int .i64 M.l[k]))∧TapeIn w' b L (posAt L a)∧w.grownBy w' (some b):=by
 have hl:=hM.1.len;have h64:int64 (M.l.length:Int):=by constructor<;>omega
 have hn:=fmod_ok (x:=rawAt L a) (n:=(M.l.length:Int)) (by omega)
 obtain⟨k,hk,hkn⟩ : ∃k:Nat,k<M.l.length∧nAt L a M.l.length=k:=⟨(nAt L a M.l.length).toNat,by unfold nAt;omega,by unfold nAt;omega⟩
 have HT:=ai ht;have HM:=ai hM;have HN:=ai hkn;obtain⟨x,hx⟩ : ∃x,M.l[k] =x:=⟨_,rfl⟩;have HX:=ai hx;clear ht hM hn hkn hx
 go_enter Tryz.func39,Tryz.ntmps39;go_wp2_with (go_at_call 10;refine(n_any _ b a L _ HT.o ha h64).mono ?_;rintro e w1 ⟨rfl,h1,h2⟩;rw [HN.o];have HT1:=ai h1;have HG1:=ai h2;have HM1:=ai (il_grown HM.o h2 (fun _=>hne));have hix:=HM1.o.1.ix hk Tryz.underlying22 szil;have c0:=int_at HM1.o.1 hk;rw [HX.o]at c0;clear h1 h2)
 go_ret
 exact⟨⟨k,hk,HN.o.symm,by rw [HX.o];rfl⟩,HT1.o,HG1.o⟩
end Go.Proofs.YtiijaaohphokcaaGreatDoor
/- conjunctive.(*matcher).free. -/
namespace Go.Proofs.YtiijaaohphokcaaGreatDoor
open Go.RowKit
theorem free_any (w0:World) (gm gs gu n:Nat) (lv:Value) (q r:Cq) (single:Bool) (σ σ':Sb V) (us:Nat→Bool) (now:List Nat) (nl:IL) (w:World) (hM:MW w0 gm gs gu q r single σ' us n lv w) (hnl:nl.l=now.map Int.ofNat) (hin:nl.In w) (hne:0<nl.l.length→nl.h.b≠gs) (hv: ∀v∈now,v<q.vars) (hbk:Back σ σ' now) :
  Calls Tryz.prog 128 #[.pointer (some ⟨gm,0,none⟩),.slice nl.h.ao nl.l.length nl.h.cap] w fun e w'=>e = .returned (.tuple #[])∧MW w0 gm gs gu q r single σ us n lv w'∧w.grownBy w' (some gs):=by
 have hln:=hin.1.len;have HM:=ai hM;have HIN:=ai hin;have HNE:=ai hne;have HV:=ai hv;have HBK:=ai hbk;have HNL:=ai hnl;have hlen:nl.l.length=now.length:=by rw [hnl,List.length_map]
 have HLEN:=ai hlen;clear hM hin hne hv hbk hnl hlen
 go_enter Tryz.func128,Tryz.ntmps128;go_wp2;go_loopw [8] (fun i wr=>∃m:Nat,m≤nl.l.length∧i = .int .i64 m∧Hid (MW w0 gm gs gu q r single (fun y=>if y∈now.take m then none else σ' y) us n lv wr)∧Hid (w.grownBy wr (some gs))) (fun i _=>nl.l.length - (intOf i).toNat)
 case atStart=>exact⟨0,Nat.zero_le _,rfl,ai (HM.o.congr (fun y=>by simp)),ai (World.grownBy.refl _ _)⟩
 case round=>
 obtain⟨m,hm,rfl,HW,HG⟩:=hrel;by_cases hlt:m<nl.l.length
 ·have hlti: (m:Int) <nl.l.length:=by omega
  have hrow:=row_grown HIN.o.1 HG.o HNE.o;have hix:=hrow.ix hlt Tryz.underlying22 szil;have c0:=int_at hrow hlt;have hmn:m<now.length:=by have:=HLEN.o;omega
  obtain⟨v,hvv⟩ : ∃v,now[m] =v:=⟨_,rfl⟩;have HX:=ai (show nl.l[m] = ((v:Nat) :Int)from by
   have h1:nl.l[m]? = some ((v:Nat) :Int):=by rw [HNL.o,List.getElem?_map,List.getElem?_eq_getElem hmn,hvv];rfl
   exact(List.getElem?_eq_some_iff.1 h1).2)
  rw [HX.o]at c0;have hvq:v<q.vars:=HV.o v (by rw [←hvv];exact List.getElem_mem hmn)
  have HTK:=ai (show now.take (m+1) =now.take m ++ [v]from by rw [List.take_succ_eq_append_getElem hmn,hvv])
  have m7:=HW.o.box.cell (j:=7) rfl
  have hixs:=index_ptr Tryz.underlying133 szptr gs q.vars q.vars v hvq;have gf:=HW.o.sf v;obtain⟨u,g0⟩ : ∃u,wr.cell? ⟨gs,v,none⟩ =some u:=by
   obtain⟨h1,h2⟩:=HW.o.ptr v hvq
   cases hs: (if v∈now.take m then none else σ' v)with
   | none=>exact⟨_,h1 hs⟩
   | some t=>obtain⟨b,o,_,_,p3⟩:=h2 t hs;exact⟨_,p3⟩
  have HS:=ai (HW.o.setS hvq none (.pointer none) rfl);have HG2:=ai (HG.o.trans (gb_set wr gs v (.pointer none)));clear hrow hvv;go_wp2;go_roundw
  case rel=>exact⟨m+1,by omega,by go_num,ai (HS.o.congr (fun y=>by
   rw [HTK.o];by_cases e:y=v
   ·subst e;rw [if_pos rfl,if_pos (by simp)]
   ·rw [if_neg e]
    have:y∈now.take m ++ [v]↔y∈now.take m:=by simp [e]
    simp only [this])),HG2⟩
  case measure=>simp [intOf];omega
 ·have hlti: ¬(m:Int) <nl.l.length:=by omega
  have HF:=ai (HW.o.congr (σ':=σ) (fun y=>by rw [HBK.o y,show now.take m=now from List.take_of_length_le (by have:=HLEN.o;omega)]))
  go_wp2
  go_end0
  exact⟨rfl,HF.o,HG.o⟩
end Go.Proofs.YtiijaaohphokcaaGreatDoor
/- conjunctive.(*matcher).rest: the frame of the search. -/
namespace Go.Proofs.YtiijaaohphokcaaGreatDoor
open Go.RowKit
def Kept (w w':World) (gm gs gu:Nat) (lv:Value) :Prop:=w.heap.size≤w'.heap.size∧∀b,b<w.heap.size→b≠gm→b≠gs→b≠gu→lv.ownBlock≠some b→w'.heap[b]? = w.heap[b]?
def Fresh (w:World) (lv lv':Value) :Prop:=∀j,lv'.ownBlock=some j→lv.ownBlock=some j∨w.heap.size≤j
section
variable {w w1 w2:World} {gm gs gu:Nat} {lv lv1 lv2:Value}
theorem Kept.refl (w:World) (gm gs gu:Nat) (lv:Value) :Kept w w gm gs gu lv:=⟨Nat.le_refl _,fun _ _ _ _ _ _=>rfl⟩
theorem Fresh.refl (w:World) (lv:Value) :Fresh w lv lv:=fun _ h=>.inl h
theorem Fresh.trans (h:Fresh w lv lv1) (k:Fresh w1 lv1 lv2) (hs:w.heap.size≤w1.heap.size) :Fresh w lv lv2:=fun j hj=>by
 rcases k j hj with h1|h1
 ·exact h j h1
 ·exact .inr (by omega)
theorem Kept.trans (h:Kept w w1 gm gs gu lv) (k:Kept w1 w2 gm gs gu lv1) (hf:Fresh w lv lv1) :Kept w w2 gm gs gu lv:=⟨Nat.le_trans h.1 k.1,fun b hb h1 h2 h3 h4=>by
 rw [k.2 b (Nat.lt_of_lt_of_le hb h.1) h1 h2 h3 (fun e=>by
  rcases hf b e with h5|h5
  ·exact h4 h5
  ·omega)]
 exact h.2 b hb h1 h2 h3 h4⟩
theorem Kept.grown {row:Option Nat} (hg:w.grownBy w1 row) (hr: ∀j,row=some j→j=gm∨j=gs∨j=gu∨lv.ownBlock=some j) :Kept w w1 gm gs gu lv:=⟨hg.size,fun b hb h1 h2 h3 h4=>hg.block b hb (fun e=>by
 rcases hr b e.symm with h|h|h|h
 ·exact h1 h
 ·exact h2 h
 ·exact h3 h
 ·exact h4 h)⟩
theorem Kept.call (hb:Below w.heap.size w w1) :Kept w w1 gm gs gu lv:=Kept.grown (only_below hb none) (fun _ e=>by cases e)
theorem Kept.box {b:Nat} {cs:Array Value} {T:TypeId} (h:Kept w w1 gm gs gu lv) (hb:Box w b cs T) (h1:b≠gm) (h2:b≠gs) (h3:b≠gu) (h4:lv.ownBlock≠some b) :Box w1 b cs T:=(h.2 b hb.lt h1 h2 h3 h4).trans hb
theorem Kept.il {x:IL} (h:Kept w w1 gm gs gu lv) (hx:x.In w) (hn:0<x.l.length→x.h.b≠gm∧x.h.b≠gs∧x.h.b≠gu∧lv.ownBlock≠some x.h.b) :x.In w1:=by
 obtain⟨⟨h1,h2,h3,h4⟩,h5⟩:=hx;refine⟨⟨h1,h2,fun hp=>⟨(h3 hp).1,Nat.lt_of_lt_of_le (h3 hp).2 h.1⟩,fun i hi j v hv=> ?_⟩,h5⟩
 have hp:0<x.l.length:=by omega
 obtain⟨n1,n2,n3,n4⟩:=hn hp;rw [World.cell?_of_block (w:=w) (a:=⟨x.h.b,_,none⟩) (h.2 x.h.b (h3 hp).2 n1 n2 n3 n4)]
 exact h4 i hi j v hv
theorem own_cut {base:Nat} {e:TypeId} {g n cap:Nat} {xs:List Value} (h:w.ownsRow base e 1 (.slice (some ⟨g,0,none⟩) (n+1) cap) (n+1) xs) :w.ownsRow base e 1 (.slice (some ⟨g,0,none⟩) n cap) n (xs.take n):=by
 obtain⟨h1,h2⟩:=h;rcases h2 with⟨h2,_⟩ | ⟨g',cap',cur,hv,hb,hg,hn,hc,hs,ht⟩
 ·cases h2
 ·injection hv with e1 e2 e3
  injection e1 with e1;injection e1 with e1 _;subst e1 e3;refine⟨by rw [List.length_take];omega,.inr ⟨g,cap,cur,rfl,hb,hg,by omega,hc,hs,?_⟩⟩
  rw [←ht,List.take_take]
  congr 1
  omega
end
theorem own_cap {w:World} {base:Nat} {e:TypeId} {g n cap size:Nat} {xs:List Value} (h:w.ownsRow base e size (.slice (some ⟨g,0,none⟩) n cap) n xs) :n≤cap:=by
 rcases h.2 with⟨h2,_⟩ | ⟨g',cap',cur,hv,hb,hg,hn,hc,hs,ht⟩
 ·cases h2
 ·injection hv with _ _ e3
  omega
theorem fits_congr {K:Type} {single:Bool} {tl:List (Lt K)} {σ:Sb K} {u1 u2:Nat→Bool} {rem:List (Lt K)} (h:single=true→∀j,u1 j=u2 j) (hf:Fits single tl σ u1 rem) :Fits single tl σ u2 rem:=by
 obtain⟨f,c,h1,h2,h3⟩:=hf;exact⟨f,c,h1,h2,fun hs=>by obtain⟨g1,g2,g3⟩:=h3 hs;exact⟨fun i hi=>by rw [←h hs];exact g1 i hi,g2,g3⟩⟩
def RestPost (w0:World) (gm gs gu n:Nat) (lv:Value) (q r:Cq) (single:Bool) (σ:Sb V) (us:Nat→Bool) (w:World) (e:Ending) (w':World) :Prop:=
 ∃b:Bool,e = .returned (.bool b)∧Below w0.heap.size w0 w'∧(b=true→Fits single r.cj.lits σ us (q.cj.lits.drop n)∧∃u,w'.cell? ⟨gm,9,none⟩ =some u)∧
  (b=false→¬Fits single r.cj.lits σ us (q.cj.lits.drop n)∧∃us' lv',(single=true→∀j,us' j=us j)∧MW w0 gm gs gu q r single σ us' n lv' w'∧Kept w w' gm gs gu lv∧Fresh w lv lv')
def Fails (q r:Cq) (single:Bool) (σ:Sb V) (us:Nat→Bool) (n:Nat) (a:Lt V) (j:Nat) :Prop:=∀b:Lt V,r.cj.lits[j]? = some b→(a.1≠b.1∨(single=true∧us j=true))∨Bars single σ a.2 b.2∨∃σ',Became single σ a.2 b.2 σ'∧¬Fits single r.cj.lits σ' (fun i=>if i=j then true else us i) (q.cj.lits.drop (n+1))
end Go.Proofs.YtiijaaohphokcaaGreatDoor
/- conjunctive.(*matcher).rest. -/
namespace Go.Proofs.YtiijaaohphokcaaGreatDoor
open Go.RowKit
theorem szlit: (Tryz.prog.info? 56).map (·.size) =some 2:=by kernel_rfl
theorem szbool: (Tryz.prog.info? 4).map (·.size) =some 1:=by kernel_rfl
structure QOk (w0:World) (q r:Cq) :Prop where
 qi:q.In w0 0
 ri:r.In w0 0
 vq: ∀l∈q.lits,∀x,Tm.v x∈l.sl.l→x<q.vars
 ql:q.lits.length≤1000
 rl:r.lits.length≤1000
 qs: ∀l∈q.lits,l.sl.l.length≤1000
theorem rest_any (w0:World) (gm gs gu:Nat) (q r:Cq) (single:Bool) (hq:QOk w0 q r) : ∀(d n:Nat) (σ:Sb V) (us:Nat→Bool) (lv:Value) (w:World),n+d=q.lits.length→MW w0 gm gs gu q r single σ us n lv w→SbOk single σ→
  Calls Tryz.prog 87 #[.pointer (some ⟨gm,0,none⟩),.int .i64 (n:Nat)] w (RestPost w0 gm gs gu n lv q r single σ us w):=by
 intro d;have HQ:=ai hq;have hql:=hq.ql;have hrl:=hq.rl;clear hq
 induction d with
 | zero=>
  intro n σ us lv w hn hM hok;have HM:=ai hM;have m1:=hM.box.cell (j:=1) rfl
  have HF:=ai (show Fits single r.cj.lits σ us (q.cj.lits.drop n)from by
   rw [show q.cj.lits.drop n = []from List.drop_of_length_le (by show(q.lits.map _).length≤n;rw [List.length_map];omega)]
   exact fits_nil hok)
  have he: ((n:Int) == (q.lits.length:Int)) =true:=beq_iff_eq.2 (by omega)
  clear hM hok hn
  go_enter Tryz.func87,Tryz.ntmps87;go_wp2;go_ret
  exact⟨true,rfl,HM.o.bel,fun _=>⟨HF.o,lv,HM.o.box.cell (j:=9) rfl⟩,fun h=>(by cases h)⟩
 | succ d ih=>
  intro n σ us lv w hn hM hok;have IH:=ai (fun(σ:Sb V) (us:Nat→Bool) (lv:Value) (w:World)=>ih (n+1) σ us lv w (by omega))
  clear ih;have HM:=ai hM;have HOK:=ai hok;have m1:=hM.box.cell (j:=1) rfl
  have he: ((n:Int) == (q.lits.length:Int)) =false:=beq_eq_false_iff_ne.2 (by omega)
  have hnl:n<q.lits.length:=by omega
  have hqr:=HQ.o.qi.row.mono hM.bel;have hix:=hqr.ix hnl Tryz.underlying29 szlit;obtain⟨c0,c1⟩:=li_at hqr hnl;obtain⟨a,ha⟩ : ∃a,q.lits[n] =a:=⟨_,rfl⟩;have HA:=ai ha;have HAM:=ai (show a∈q.lits from ha▸List.getElem_mem hnl)
  have HDR:=ai (show q.cj.lits.drop n=a.lt :: q.cj.lits.drop (n+1)from by
   have h1:n< (q.lits.map Li.lt).length:=by rw [List.length_map];exact hnl
   show(q.lits.map Li.lt).drop n=a.lt :: (q.lits.map Li.lt).drop (n+1)
   rw [List.drop_eq_getElem_cons h1,List.getElem_map,ha])
  rw [ha]at c0 c1;have HMX:=ai (hM.call (belA (.cells #[.int .i64 (a.tab:Nat),.slice a.sl.h.ao a.sl.l.length a.sl.h.cap] 56)));have HBX:=ai (Box.new w #[.int .i64 (a.tab:Nat),.slice a.sl.h.ao a.sl.l.length a.sl.h.cap] 56);have m4:=HMX.o.box.cell (j:=4) rfl
  obtain⟨W,hW⟩ : ∃W,w.alloc (.cells #[.int .i64 (a.tab:Nat),.slice a.sl.h.ao a.sl.l.length a.sl.h.cap] 56) =W:=⟨_,rfl⟩;rw [hW]at HMX HBX m4;have HWB:=ai (show Below w.heap.size w W from by rw [←hW];exact belA _)
  have HWN:=ai (show w.heap.size<W.heap.size from HBX.o.lt)
  clear hM hok ha hqr
  go_enter Tryz.func87,Tryz.ntmps87;go_wp2;clear hW m1 m4 c0 c1 hix he;go_loopw [32] (fun i wr=>∃k:Nat,k≤r.lits.length∧i = .int .i64 k∧Hid (∀j,j<k→Fails q r single σ us n a.lt j)∧∃(us1:Nat→Bool) (lv1:Value),Hid (single=true→∀j,us1 j=us j)∧Hid (MW w0 gm gs gu q r single σ us1 n lv1 wr)∧Hid (Kept W wr gm gs gu lv)∧Hid (Fresh W lv lv1)) (fun i _=>r.lits.length - (intOf i).toNat)
  case atStart=>exact⟨0,Nat.zero_le _,rfl,ai (fun j h=>absurd h (by omega)),us,lv,ai (fun _ _=>rfl),HMX,ai (Kept.refl _ _ _ _ _),ai (Fresh.refl _ _)⟩
  case round=>
  obtain⟨k,hk,rfl,HFL,us1,lv1,HU1,HM1,HK1,HF1⟩:=hrel;clear HMX;by_cases hlt:k<r.lits.length
  ·have hlti: (k:Int) <r.lits.length:=by omega
   have hrr:=HQ.o.ri.row.mono HM1.o.bel;have hixr:=hrr.ix hlt Tryz.underlying29 szlit;obtain⟨d0,d1⟩:=li_at hrr hlt;obtain⟨b,hb⟩ : ∃b,r.lits[k] =b:=⟨_,rfl⟩;have HBM:=ai (show b∈r.lits from hb▸List.getElem_mem hlt)
   have HBK:=ai (show r.cj.lits[k]? = some b.lt from by show(r.lits.map Li.lt)[k]? = _;rw [List.getElem?_map,List.getElem?_eq_getElem hlt,hb];rfl)
   rw [hb]at d0 d1;clear hb hrr;have HLT:=ai (show gm<w.heap.size∧gs<w.heap.size∧gu<w.heap.size from HM.o.hi)
   have HLV:=ai (show∀j,lv.ownBlock=some j→j<w.heap.size from fun j e=>by obtain⟨xs,hx⟩:=HM.o.own;exact(hx.lt j e).2)
   have HBA:=ai (HK1.o.box HBX.o (by have:=HLT.o;omega) (by have:=HLT.o;omega) (by have:=HLT.o;omega) (fun e=>by have:=HLV.o _ e;omega))
   obtain⟨X,hX⟩ : ∃X,wr.alloc (.cells #[.int .i64 (b.tab:Nat),.slice b.sl.h.ao b.sl.l.length b.sl.h.cap] 56) =X:=⟨_,rfl⟩;have HBX1:=ai (show Below wr.heap.size wr X from by rw [←hX];exact belA _)
   have HBB:=ai (show Box X wr.heap.size #[.int .i64 (b.tab:Nat),.slice b.sl.h.ao b.sl.l.length b.sl.h.cap] 56 from by rw [←hX];exact Box.new _ _ _)
   have HMX1:=ai (HM1.o.call HBX1.o);have HBAX:=ai (HBA.o.below HBX1.o);have HFX:=ai (show Fresh W lv lv1 from HF1.o)
   have HKX:=ai (HK1.o.trans (Kept.call (gm:=gm) (gs:=gs) (gu:=gu) (lv:=lv1) HBX1.o) HFX.o)
   have HXS:=ai (show W.heap.size≤wr.heap.size∧wr.heap.size<X.heap.size from⟨HK1.o.1,HBB.o.lt⟩)
   have HXS:=ai (show w.heap.size<X.heap.size from by have:=HXS.o;have:=HWN.o;omega)
   have HSTEP:=ai (fun(hf:Fails q r single σ us n a.lt k)=>(fun j hj=>by
    by_cases e:j=k
    ·rw [e];exact hf
    ·exact HFL.o j (by omega) : ∀j,j<k+1→Fails q r single σ us n a.lt j))
   have a0:=HBAX.o.cell (j:=0) rfl
   have a1:=HBAX.o.cell (j:=1) rfl
   have b0:=HBB.o.cell (j:=0) rfl
   have b1:=HBB.o.cell (j:=1) rfl
   by_cases htab:a.tab=b.tab
   case neg=>
    have ht: ((a.tab:Int) != (b.tab:Int)) =true:=bne_iff_ne.2 (by omega)
    have HT:=ai htab;clear htab;go_wp2;go_roundw
    case rel=>exact⟨k+1,by omega,by go_num,ai (HSTEP.o (fun b' hb'=>by rw [HBK.o]at hb';injection hb' with hb';subst hb';exact .inl (.inl HT.o))),us1,lv1,HU1,HMX1,HKX,HFX⟩
    case measure=>simp [intOf];omega
   have ht: ((a.tab:Int) != (b.tab:Int)) =false:=by rw [htab];exact bne_self_eq_false _
   have HT:=ai htab;clear htab;have m6:=HMX1.o.box.cell (j:=6) rfl
   have HBEC:=ai (becomes_any w0 gm gs gu n lv1 q r single σ us1 a.sl b.sl X HMX1.o (HQ.o.qi.sl a HAM.o).row (HQ.o.ri.sl b HBM.o).row (HQ.o.vq a HAM.o) HQ.o.qi.vr (HQ.o.qs a HAM.o));obtain⟨i0,hi,hz0,hz1,hz2⟩:=info_parts info_int;have HI:=ai (And.intro hi (And.intro hz0 (And.intro hz1 hz2)));clear hi hz0 hz1 hz2;have hn1000:n≤1000:=by omega
   have hwn1:IntKind.i64.wrap ((n:Int) +1) = ((n+1:Nat) :Int):=by rw [IntKind.wrap_i64];omega
   by_cases hsg:single=true
   ·have m8a:=HMX1.o.box.cell (j:=8) rfl
    have hixu0:=index_ptr Tryz.underlying102 szbool gu r.lits.length r.lits.length k hlt;have U0:=HMX1.o.usd k hlt;by_cases huk:us1 k=true
    ·rw [huk]at U0
     rw [hsg]at m6;have HUK:=ai (show us k=true from by rw [←HU1.o hsg k];exact huk)
     have HSG:=ai hsg;clear huk hsg;go_wp2;go_roundw
     case rel=>exact⟨k+1,by omega,by go_num,ai (HSTEP.o (fun b' hb'=>by rw [HBK.o]at hb';injection hb' with hb';subst hb';exact .inl (.inr ⟨HSG.o,HUK.o⟩))),us1,lv1,HU1,HMX1,HKX,HFX⟩
     case measure=>simp [intOf];omega
    ·have hukf:us1 k=false:=by simpa using huk
     clear huk;rw [hukf]at U0;rw [hsg]at m6;have HUS:=ai (show single=true→us k=false from fun _=>by rw [←HU1.o hsg k];exact hukf)
     have HSG:=ai hsg;clear hukf hsg;go_upto_region 9 with(go_at_call 86;refine HBEC.o.mono ?_;rintro e Y ⟨σ',now,nl,ok,rfl,hnl,hnin,hnb,hbk,hnv,hMY,hres,hgY⟩;have HY:=ai (And.intro hnl (And.intro hnin (And.intro hnb (And.intro hbk (And.intro hnv (And.intro hMY (And.intro hres hgY)))))));clear hnl hnin hnb hbk hnv hMY hres hgY)
     clear a0 a1 b0 b1 m6 U0 m8a hixu0;obtain⟨hnl,hnin,hnb,hbk,hnv,hMY,hres,hgY⟩:=HY.o;have HNL:=ai hnl;have HNIN:=ai hnin;have HNBX:=ai hnb;have HNB:=ai (fun hp=>Nat.lt_of_lt_of_le HXS.o (hnb hp))
     have HBKK:=ai hbk;have HNV:=ai hnv;have HMY:=ai hMY;have HRES:=ai hres;have HKY:=ai (HKX.o.trans (Kept.grown (lv:=lv1) hgY (fun j e=>.inr (.inl (by injection e with e;exact e.symm)))) (HFX.o))
     have HGYS:=ai hgY.size;clear hnl hnin hnb hbk hnv hMY hres hgY HY
     cases ok with
     | false=>
      have HBR:=ai (show Bars single σ a.sl.l b.sl.l from by have h:=HRES.o;rwa [if_neg (by decide)]at h)
      go_wp2_with (go_at_call 128;refine(free_any w0 gm gs gu n lv1 q r single σ σ' us1 now nl _ HMY.o HNL.o HNIN.o (fun hp=>by have:=HNB.o hp;have:=HLT.o;omega) HNV.o HBKK.o).mono ?_;rintro e Y2 ⟨rfl,hM2,hg2⟩;have HM2:=ai hM2;have HG2:=ai hg2;clear hM2 hg2)
      go_roundw
      case rel=>exact⟨k+1,by omega,by go_num,ai (HSTEP.o (fun b' hb'=>by rw [HBK.o]at hb';injection hb' with hb';subst hb';exact .inr (.inl HBR.o))),us1,lv1,HU1,HM2,ai (HKY.o.trans (Kept.grown (lv:=lv1) HG2.o (fun j e=>.inr (.inl (by injection e with e;exact e.symm)))) HFX.o),HF1⟩
      case measure=>simp [intOf];omega
     | true=>
      have HBC:=ai (show Became single σ a.sl.l b.sl.l σ' from by have h:=HRES.o;rwa [if_pos rfl]at h)
      have m8:=HMY.o.box.cell (j:=8) rfl
      have hixu:=index_ptr Tryz.underlying102 szbool gu r.lits.length r.lits.length k hlt;have u0:=HMY.o.usd k hlt;have uf:=HMY.o.uf k;have HMY1:=ai (HMY.o.setU hlt true);have HKY1:=ai (HKY.o.trans (Kept.grown (lv:=lv1) (gb_set Y gu k (.bool true)) (fun j e=>.inr (.inr (.inl (by injection e with e;exact e.symm))))) HFX.o)
      have HKN1:=ai (Kept.grown (gm:=gm) (gs:=gs) (gu:=gu) (lv:=lv1) (gb_set Y gu k (.bool true)) (fun j e=>.inr (.inr (.inl (by injection e with e;exact e.symm)))))
      have hYS:Y.heap.size= (Y.setCell ⟨gu,k,none⟩ (.bool true)).heap.size:=by simp
      have HSZ1:=ai hYS;clear hYS;go_upto_region 11 with fail
      clear m8 u0 uf;generalize Y.setCell ⟨gu,k,none⟩ (.bool true) =Y1 at *;have m9:=HMY1.o.box.cell (j:=9) rfl
      have f9:=HMY1.o.box.fr 9;obtain⟨xs,hxs⟩:=HMY1.o.own;have HXS1:=ai hxs;have hlo1:=HMY1.o.hi;clear hxs;go_upto_region 12 with(at_builtin;refine wpList_append_own_at _ rfl _ _ 22 rfl w0.heap.size 3 i0 (.int .i64 0) 1 8 Tryz.underlying22 HI.o.1 HI.o.2.1 HI.o.2.2.1 HI.o.2.2.2 rfl (by decide) _ n xs rfl (HXS1.o.alloc _) ⟨Y1.heap.size,0,none⟩ 1 1 [.int .i64 (k:Nat)] rfl rfl (new_cells (l:= [.int .i64 (k:Nat)])) (by intro a ha;rw [List.mem_singleton.1 ha];rfl) (by unfold maxLen;omega) (by omega) (by have:=HMY1.o.bel.size;simp;omega) ?_;intro lv4 Y3 hown3 hgr3 _ hblk3;obtain⟨g4,cap4,rfl,_,_⟩:=World.ownsRow.form hown3 (by omega);have HO3:=ai hown3;have HG3:=ai (show(Y1.alloc (.cells #[.int .i64 (k:Nat)] 3)).grownBy Y3 lv1.ownBlock from hgr3);have HBL3:=ai (show(Value.slice (some ⟨g4,0,none⟩) (n+1) cap4).ownBlock=lv1.ownBlock∨(Value.slice (some ⟨g4,0,none⟩) (n+1) cap4).ownBlock=some (Y1.alloc (.cells #[.int .i64 (k:Nat)] 3)).heap.size from hblk3);have hbx3:=(HMY1.o.box.below (belA _)).grown hgr3 (fun e=>HMY1.o.ne.2.2.2.1 e.symm);have m9b:=hbx3.cell (j:=9) rfl;have f9b:=hbx3.fr 9;clear hown3 hgr3 hblk3 hbx3)
      have HF4:=ai (show Fresh Y1 lv1 (.slice (some ⟨g4,0,none⟩) (n+1) cap4)from fun j hj=>by
       rcases HBL3.o with h|h
       ·exact .inl (by rw [←h];exact hj)
       ·right
        rw [h]at hj;injection hj with hj;simp at hj;omega)
      have HM4:=ai ((HMY1.o.call (belA (.cells #[.int .i64 (k:Nat)] 3))).setL HG3.o HO3.o (fun j hj=>by
       rcases HBL3.o with h|h
       ·exact .inl (by rw [←h];exact hj)
       ·right
        rw [h]at hj;injection hj with hj;omega))
      have HK4:=ai ((((Kept.call (gm:=gm) (gs:=gs) (gu:=gu) (lv:=lv1) (belA (w:=Y1) (.cells #[.int .i64 (k:Nat)] 3))).trans (Kept.grown (lv:=lv1) HG3.o (fun j e=>.inr (.inr (.inr e)))) (Fresh.refl _ _)).trans (Kept.grown (lv:=lv1) (gb_set Y3 gm 9 (.slice (some ⟨g4,0,none⟩) (n+1) cap4)) (fun j e=>.inl (by injection e with e;exact e.symm))) (Fresh.refl _ _)))
      clear m9 f9 m9b f9b;generalize Y3.setCell ⟨gm,9,none⟩ (.slice (some ⟨g4,0,none⟩) (n+1) cap4) =Y4 at *;have HRC:=ai (IH.o σ' _ _ Y4 HM4.o (HBC.o.ok HOK.o))
      go_upto_if 86 with(go_at_call 87;refine HRC.o.mono ?_;rintro e Y5 ⟨b5,rfl,hb5,hT,hF⟩;have HB5:=ai hb5;have HT5:=ai hT;have HF5:=ai hF;clear hb5 hT hF)
      clear HRC
      cases b5 with
      | true=>
       have HFT:=ai (show Fits single r.cj.lits σ us (q.cj.lits.drop n)from by
        rw [HDR.o];exact fits_cons HBK.o HT.o HUS.o HBC.o (fits_congr (fun hs j=>by
         by_cases e:j=k
         ·rw [if_pos e,if_pos e]
         ·rw [if_neg e,if_neg e,HU1.o hs j]) (HT5.o (by trivial)).1))
       go_wp2;go_ret
       exact⟨true,rfl,HB5.o,fun _=>⟨HFT.o,(HT5.o (by trivial)).2⟩,fun h=>(by cases h)⟩
      | false=>
       obtain⟨hno,us5,lv5,hu5,hM5,hk5,hf5⟩:=HF5.o rfl;obtain⟨xs5,hx5⟩:=hM5.own;obtain⟨g5,cap5,hlv5,_,_⟩:=hx5.form (by omega)
       subst hlv5;have hcap5:=own_cap hx5;have hc5i: (n:Int)≤cap5:=by omega
       have hc5n:n≤cap5:=by omega
       have m9:=hM5.box.cell (j:=9) rfl
       have f9:=hM5.box.fr 9;have HNOT:=ai hno;have HU5:=ai hu5;have HM6:=ai (hM5.setL (World.grownBy.refl _ _) (own_cut hx5) (fun j hj=>.inl hj))
       have HF4Y:=ai (show Fresh Y lv1 (.slice (some ⟨g4,0,none⟩) (n+1) cap4)from fun j hj=>(HF4.o j hj).imp id (fun h=>by rw [HSZ1.o];exact h))
       have HKY4:=ai (HKN1.o.trans HK4.o (Fresh.refl _ _));have HF5Y:=ai (show Fresh Y lv1 (.slice (some ⟨g5,0,none⟩) n cap5)from(HF4Y.o).trans (fun j hj=>hf5 j hj) HKY4.o.1)
       have HKY5:=ai (HKY4.o.trans hk5 HF4Y.o);have HKY6:=ai (HKY5.o.trans (Kept.grown (lv:=lv1) (gb_set Y5 gm 9 (.slice (some ⟨g5,0,none⟩) n cap5)) (fun j e=>.inl (by injection e with e;exact e.symm))) (Fresh.refl _ _))
       clear hno hu5 hM5 hk5 hf5 hx5 hcap5 HF5;go_upto_region 15 with fail
       clear m9 f9;generalize Y5.setCell ⟨gm,9,none⟩ (.slice (some ⟨g5,0,none⟩) n cap5) =Y6 at *;have m8:=HM6.o.box.cell (j:=8) rfl
       have u0:=HM6.o.usd k hlt;have uf:=HM6.o.uf k;have HM7:=ai (HM6.o.setU hlt false);have HKY7:=ai (HKY6.o.trans (Kept.grown (lv:=lv1) (gb_set Y6 gu k (.bool false)) (fun j e=>.inr (.inr (.inl (by injection e with e;exact e.symm))))) (Fresh.refl _ _))
       go_upto_region 16 with fail
       clear m8 u0 uf;generalize Y6.setCell ⟨gu,k,none⟩ (.bool false) =Y7 at *;have HNIN7:=ai (HKY7.o.il HNIN.o (fun hp=>⟨by have:=HNB.o hp;have:=HLT.o;omega,by have:=HNB.o hp;have:=HLT.o;omega,by have:=HNB.o hp;have:=HLT.o;omega,fun e=>by obtain⟨zs,hz⟩:=HMX1.o.own;have:=(hz.lt _ e).2;have:=HNBX.o hp;omega⟩))
       go_wp2_with (go_at_call 128;refine(free_any w0 gm gs gu n _ q r single σ σ' _ now nl _ HM7.o HNL.o HNIN7.o (fun hp=>by have:=HNB.o hp;have:=HLT.o;omega) HNV.o HBKK.o).mono ?_;rintro e Y8 ⟨rfl,hM8,hg8⟩;have HM8:=ai hM8;have HG8:=ai hg8;clear hM8 hg8)
       go_roundw
       case rel=>exact⟨k+1,by omega,by go_num,ai (HSTEP.o (fun b' hb'=>by
        rw [HBK.o]at hb';injection hb' with hb';subst hb';exact .inr (.inr ⟨σ',HBC.o,fun hf=>HNOT.o (fits_congr (fun hs j=>by
         by_cases e:j=k
         ·rw [if_pos e,if_pos e]
         ·rw [if_neg e,if_neg e,HU1.o hs j]) hf)⟩))),_,_,ai (fun hs j=>by
        by_cases e:j=k
        ·rw [if_pos e,e];exact(HUS.o hs).symm
        ·rw [if_neg e,HU5.o hs j,if_neg e];exact HU1.o hs j),HM8,ai ((HKY.o.trans HKY7.o HFX.o).trans (Kept.grown (lv:=lv) HG8.o (fun j e=>.inr (.inl (by injection e with e;exact e.symm)))) (Fresh.refl _ _)),ai (HFX.o.trans HF5Y.o HKY.o.1)⟩
       case measure=>simp [intOf];omega
   ·have hsf:single=false:=by simpa using hsg
    clear hsg;have U0:True:=trivial;have HUS:=ai (show single=true→us k=false from fun h=>by rw [hsf]at h;cases h)
    rw [hsf]at m6;have HSG:=ai hsf;clear hsf;go_upto_region 9 with(go_at_call 86;refine HBEC.o.mono ?_;rintro e Y ⟨σ',now,nl,ok,rfl,hnl,hnin,hnb,hbk,hnv,hMY,hres,hgY⟩;have HY:=ai (And.intro hnl (And.intro hnin (And.intro hnb (And.intro hbk (And.intro hnv (And.intro hMY (And.intro hres hgY)))))));clear hnl hnin hnb hbk hnv hMY hres hgY)
    clear a0 a1 b0 b1 m6 U0;obtain⟨hnl,hnin,hnb,hbk,hnv,hMY,hres,hgY⟩:=HY.o;have HNL:=ai hnl;have HNIN:=ai hnin;have HNBX:=ai hnb;have HNB:=ai (fun hp=>Nat.lt_of_lt_of_le HXS.o (hnb hp))
    have HBKK:=ai hbk;have HNV:=ai hnv;have HMY:=ai hMY;have HRES:=ai hres;have HKY:=ai (HKX.o.trans (Kept.grown (lv:=lv1) hgY (fun j e=>.inr (.inl (by injection e with e;exact e.symm)))) (HFX.o))
    have HGYS:=ai hgY.size;clear hnl hnin hnb hbk hnv hMY hres hgY HY
    cases ok with
    | false=>
     have HBR:=ai (show Bars single σ a.sl.l b.sl.l from by have h:=HRES.o;rwa [if_neg (by decide)]at h)
     go_wp2_with (go_at_call 128;refine(free_any w0 gm gs gu n lv1 q r single σ σ' us1 now nl _ HMY.o HNL.o HNIN.o (fun hp=>by have:=HNB.o hp;have:=HLT.o;omega) HNV.o HBKK.o).mono ?_;rintro e Y2 ⟨rfl,hM2,hg2⟩;have HM2:=ai hM2;have HG2:=ai hg2;clear hM2 hg2)
     go_roundw
     case rel=>exact⟨k+1,by omega,by go_num,ai (HSTEP.o (fun b' hb'=>by rw [HBK.o]at hb';injection hb' with hb';subst hb';exact .inr (.inl HBR.o))),us1,lv1,HU1,HM2,ai (HKY.o.trans (Kept.grown (lv:=lv1) HG2.o (fun j e=>.inr (.inl (by injection e with e;exact e.symm)))) HFX.o),HF1⟩
     case measure=>simp [intOf];omega
    | true=>
     have HBC:=ai (show Became single σ a.sl.l b.sl.l σ' from by have h:=HRES.o;rwa [if_pos rfl]at h)
     have m8:=HMY.o.box.cell (j:=8) rfl
     have hixu:=index_ptr Tryz.underlying102 szbool gu r.lits.length r.lits.length k hlt;have u0:=HMY.o.usd k hlt;have uf:=HMY.o.uf k;have HMY1:=ai (HMY.o.setU hlt true);have HKY1:=ai (HKY.o.trans (Kept.grown (lv:=lv1) (gb_set Y gu k (.bool true)) (fun j e=>.inr (.inr (.inl (by injection e with e;exact e.symm))))) HFX.o)
     have HKN1:=ai (Kept.grown (gm:=gm) (gs:=gs) (gu:=gu) (lv:=lv1) (gb_set Y gu k (.bool true)) (fun j e=>.inr (.inr (.inl (by injection e with e;exact e.symm)))))
     have hYS:Y.heap.size= (Y.setCell ⟨gu,k,none⟩ (.bool true)).heap.size:=by simp
     have HSZ1:=ai hYS;clear hYS;go_upto_region 11 with fail
     clear m8 u0 uf;generalize Y.setCell ⟨gu,k,none⟩ (.bool true) =Y1 at *;have m9:=HMY1.o.box.cell (j:=9) rfl
     have f9:=HMY1.o.box.fr 9;obtain⟨xs,hxs⟩:=HMY1.o.own;have HXS1:=ai hxs;have hlo1:=HMY1.o.hi;clear hxs;go_upto_region 12 with(at_builtin;refine wpList_append_own_at _ rfl _ _ 22 rfl w0.heap.size 3 i0 (.int .i64 0) 1 8 Tryz.underlying22 HI.o.1 HI.o.2.1 HI.o.2.2.1 HI.o.2.2.2 rfl (by decide) _ n xs rfl (HXS1.o.alloc _) ⟨Y1.heap.size,0,none⟩ 1 1 [.int .i64 (k:Nat)] rfl rfl (new_cells (l:= [.int .i64 (k:Nat)])) (by intro a ha;rw [List.mem_singleton.1 ha];rfl) (by unfold maxLen;omega) (by omega) (by have:=HMY1.o.bel.size;simp;omega) ?_;intro lv4 Y3 hown3 hgr3 _ hblk3;obtain⟨g4,cap4,rfl,_,_⟩:=World.ownsRow.form hown3 (by omega);have HO3:=ai hown3;have HG3:=ai (show(Y1.alloc (.cells #[.int .i64 (k:Nat)] 3)).grownBy Y3 lv1.ownBlock from hgr3);have HBL3:=ai (show(Value.slice (some ⟨g4,0,none⟩) (n+1) cap4).ownBlock=lv1.ownBlock∨(Value.slice (some ⟨g4,0,none⟩) (n+1) cap4).ownBlock=some (Y1.alloc (.cells #[.int .i64 (k:Nat)] 3)).heap.size from hblk3);have hbx3:=(HMY1.o.box.below (belA _)).grown hgr3 (fun e=>HMY1.o.ne.2.2.2.1 e.symm);have m9b:=hbx3.cell (j:=9) rfl;have f9b:=hbx3.fr 9;clear hown3 hgr3 hblk3 hbx3)
     have HF4:=ai (show Fresh Y1 lv1 (.slice (some ⟨g4,0,none⟩) (n+1) cap4)from fun j hj=>by
      rcases HBL3.o with h|h
      ·exact .inl (by rw [←h];exact hj)
      ·right
       rw [h]at hj;injection hj with hj;simp at hj;omega)
     have HM4:=ai ((HMY1.o.call (belA (.cells #[.int .i64 (k:Nat)] 3))).setL HG3.o HO3.o (fun j hj=>by
      rcases HBL3.o with h|h
      ·exact .inl (by rw [←h];exact hj)
      ·right
       rw [h]at hj;injection hj with hj;omega))
     have HK4:=ai ((((Kept.call (gm:=gm) (gs:=gs) (gu:=gu) (lv:=lv1) (belA (w:=Y1) (.cells #[.int .i64 (k:Nat)] 3))).trans (Kept.grown (lv:=lv1) HG3.o (fun j e=>.inr (.inr (.inr e)))) (Fresh.refl _ _)).trans (Kept.grown (lv:=lv1) (gb_set Y3 gm 9 (.slice (some ⟨g4,0,none⟩) (n+1) cap4)) (fun j e=>.inl (by injection e with e;exact e.symm))) (Fresh.refl _ _)))
     clear m9 f9 m9b f9b;generalize Y3.setCell ⟨gm,9,none⟩ (.slice (some ⟨g4,0,none⟩) (n+1) cap4) =Y4 at *;have HRC:=ai (IH.o σ' _ _ Y4 HM4.o (HBC.o.ok HOK.o))
     go_upto_if 86 with(go_at_call 87;refine HRC.o.mono ?_;rintro e Y5 ⟨b5,rfl,hb5,hT,hF⟩;have HB5:=ai hb5;have HT5:=ai hT;have HF5:=ai hF;clear hb5 hT hF)
     clear HRC
     cases b5 with
     | true=>
      have HFT:=ai (show Fits single r.cj.lits σ us (q.cj.lits.drop n)from by
       rw [HDR.o];exact fits_cons HBK.o HT.o HUS.o HBC.o (fits_congr (fun hs j=>by
        by_cases e:j=k
        ·rw [if_pos e,if_pos e]
        ·rw [if_neg e,if_neg e,HU1.o hs j]) (HT5.o (by trivial)).1))
      go_wp2;go_ret
      exact⟨true,rfl,HB5.o,fun _=>⟨HFT.o,(HT5.o (by trivial)).2⟩,fun h=>(by cases h)⟩
     | false=>
      obtain⟨hno,us5,lv5,hu5,hM5,hk5,hf5⟩:=HF5.o rfl;obtain⟨xs5,hx5⟩:=hM5.own;obtain⟨g5,cap5,hlv5,_,_⟩:=hx5.form (by omega)
      subst hlv5;have hcap5:=own_cap hx5;have hc5i: (n:Int)≤cap5:=by omega
      have hc5n:n≤cap5:=by omega
      have m9:=hM5.box.cell (j:=9) rfl
      have f9:=hM5.box.fr 9;have HNOT:=ai hno;have HU5:=ai hu5;have HM6:=ai (hM5.setL (World.grownBy.refl _ _) (own_cut hx5) (fun j hj=>.inl hj))
      have HF4Y:=ai (show Fresh Y lv1 (.slice (some ⟨g4,0,none⟩) (n+1) cap4)from fun j hj=>(HF4.o j hj).imp id (fun h=>by rw [HSZ1.o];exact h))
      have HKY4:=ai (HKN1.o.trans HK4.o (Fresh.refl _ _));have HF5Y:=ai (show Fresh Y lv1 (.slice (some ⟨g5,0,none⟩) n cap5)from(HF4Y.o).trans (fun j hj=>hf5 j hj) HKY4.o.1)
      have HKY5:=ai (HKY4.o.trans hk5 HF4Y.o);have HKY6:=ai (HKY5.o.trans (Kept.grown (lv:=lv1) (gb_set Y5 gm 9 (.slice (some ⟨g5,0,none⟩) n cap5)) (fun j e=>.inl (by injection e with e;exact e.symm))) (Fresh.refl _ _))
      clear hno hu5 hM5 hk5 hf5 hx5 hcap5 HF5;go_upto_region 15 with fail
      clear m9 f9;generalize Y5.setCell ⟨gm,9,none⟩ (.slice (some ⟨g5,0,none⟩) n cap5) =Y6 at *;have m8:=HM6.o.box.cell (j:=8) rfl
      have u0:=HM6.o.usd k hlt;have uf:=HM6.o.uf k;have HM7:=ai (HM6.o.setU hlt false);have HKY7:=ai (HKY6.o.trans (Kept.grown (lv:=lv1) (gb_set Y6 gu k (.bool false)) (fun j e=>.inr (.inr (.inl (by injection e with e;exact e.symm))))) (Fresh.refl _ _))
      go_upto_region 16 with fail
      clear m8 u0 uf;generalize Y6.setCell ⟨gu,k,none⟩ (.bool false) =Y7 at *;have HNIN7:=ai (HKY7.o.il HNIN.o (fun hp=>⟨by have:=HNB.o hp;have:=HLT.o;omega,by have:=HNB.o hp;have:=HLT.o;omega,by have:=HNB.o hp;have:=HLT.o;omega,fun e=>by obtain⟨zs,hz⟩:=HMX1.o.own;have:=(hz.lt _ e).2;have:=HNBX.o hp;omega⟩))
      go_wp2_with (go_at_call 128;refine(free_any w0 gm gs gu n _ q r single σ σ' _ now nl _ HM7.o HNL.o HNIN7.o (fun hp=>by have:=HNB.o hp;have:=HLT.o;omega) HNV.o HBKK.o).mono ?_;rintro e Y8 ⟨rfl,hM8,hg8⟩;have HM8:=ai hM8;have HG8:=ai hg8;clear hM8 hg8)
      go_roundw
      case rel=>exact⟨k+1,by omega,by go_num,ai (HSTEP.o (fun b' hb'=>by
       rw [HBK.o]at hb';injection hb' with hb';subst hb';exact .inr (.inr ⟨σ',HBC.o,fun hf=>HNOT.o (fits_congr (fun hs j=>by
        by_cases e:j=k
        ·rw [if_pos e,if_pos e]
        ·rw [if_neg e,if_neg e,HU1.o hs j]) hf)⟩))),_,_,ai (fun hs j=>by
       by_cases e:j=k
       ·rw [if_pos e,e];exact(HUS.o hs).symm
       ·rw [if_neg e,HU5.o hs j,if_neg e];exact HU1.o hs j),HM8,ai ((HKY.o.trans HKY7.o HFX.o).trans (Kept.grown (lv:=lv) HG8.o (fun j e=>.inr (.inl (by injection e with e;exact e.symm)))) (Fresh.refl _ _)),ai (HFX.o.trans HF5Y.o HKY.o.1)⟩
      case measure=>simp [intOf];omega
  ·have hlti: ¬(k:Int) <r.lits.length:=by omega
   have HNO:=ai (show¬Fits single r.cj.lits σ us (q.cj.lits.drop n)from by
    rw [HDR.o];exact fits_none (fun j b hb=>HFL.o j (by
     have:=lt_of_some hb;have h2:r.cj.lits.length=r.lits.length:=List.length_map _;omega) b hb))
   go_wp2;go_ret
   exact⟨false,rfl,HM1.o.bel,fun h=>(by cases h),fun _=>⟨HNO.o,us1,lv1,HU1.o,HM1.o,(Kept.call HWB.o).trans HK1.o (Fresh.refl _ _),fun j hj=>(HF1.o j hj).imp id (fun h=>by have:=HWN.o;omega)⟩⟩
end Go.Proofs.YtiijaaohphokcaaGreatDoor

/- A part of the proof of AlgebraMade. -/
import Derived.Test.YtogalchclmmfgaaDoorP19
import Derived.Test.YtogalchclmmfgaaDoorP05
import Derived.Test.YtogalchclmmfgaaDoorP20
import Derived.Test.YtogalchclmmfgaaDoorP04
import Derived.Lib.AppendZerosOnto
import Derived.Lib.SliceRun
import Derived.Lib.Walk
set_option maxRecDepth 100000
set_option maxHeartbeats 16000000
namespace Go.Proofs.YtogalchclmmfgaaDoor
open Go.RowKit
theorem values1_any (t:Int) (w:World) :Calls Tryd.prog 92 #[.int .i64 t] w fun e w'=>e = .returned (.bool (!isT t))∧Below w.heap.size w w':=by
 by_cases h1:t=1
 ·subst h1
  go_enter Tryd.func92,Tryd.ntmps92;go_wp2;go_ret
  exact⟨rfl,Below.refl _ _⟩
 by_cases h2:t=2
 ·subst h2
  go_enter Tryd.func92,Tryd.ntmps92;go_wp2;go_ret
  exact⟨rfl,Below.refl _ _⟩
 by_cases h3:t=3
 ·subst h3
  go_enter Tryd.func92,Tryd.ntmps92;go_wp2;go_ret
  exact⟨rfl,Below.refl _ _⟩
 have b1: (t != 1) =true:=bne_iff_ne.2 h1;have b2: (t != 2) =true:=bne_iff_ne.2 h2;have b3: (t != 3) =true:=bne_iff_ne.2 h3;have HT:=ai (show isT t=false from decide_eq_false (by omega))
 go_enter Tryd.func92,Tryd.ntmps92;go_wp2;go_ret
 exact⟨by rw [HT.o];rfl,Below.refl _ _⟩
theorem badix_any (x:IL) (w:World) (hin:x.In w) :
  Calls Tryd.prog 100 #[.slice x.h.ao x.l.length x.h.cap,.func (.func 92) #[] #[]] w
   fun e w'=>e = .returned (.int .i64 (fx (fun t=> !isT t) x.l))∧Below w.heap.size w w':=by
 have hn:=hin.1.len
 go_enter Tryd.func100,Tryd.ntmps100;go_wp2;go_loopw [5,8] (fun _ i wr=>∃k:Nat,k≤x.l.length∧i = .int .i64 k∧(∀j (hj:j<x.l.length),j<k→(!isT x.l[j]) =false)∧Below w.heap.size w wr) (fun _ i _=>x.l.length - (intOf i).toNat)
 case atStart=>exact⟨0,Nat.zero_le _,rfl,fun j _ h=>absurd h (by omega),Below.refl _ _⟩
 case round=>
  obtain⟨k,hk,rfl,hno,hbw⟩:=hrel;have HN:=ai hno;have HB:=ai hbw;have hin':=hin.mono hbw;clear hno hbw;by_cases hlt:k<x.l.length
  ·have hix:=IL.ix hin' hlt
   have c0:=int_at hin'.1 hlt
   cases hp: (!isT x.l[k])
   all_goals
    have HP:=ai hp;clear hp;go_wp2_with (go_at_call 92;refine(values1_any x.l[k] _).mono ?_;rintro e w1 ⟨rfl,hb1⟩;rw [HP.o])
   ·go_roundw
    case rel=>
     refine⟨k+1,by omega,by go_num,fun j hj h=> ?_,HB.o.trans (hb1.mono HB.o.size)⟩
     by_cases e:j=k
     ·subst e;exact HP.o
     ·exact HN.o j hj (by omega)
    case measure=>simp [intOf];omega
   ·go_ret
    exact⟨ret1 (fx_hit (p:=fun t=> !isT t) hlt HP.o (fun j hj h=>HN.o j hj h)).symm,HB.o.trans (hb1.mono HB.o.size)⟩
  ·go_wp2
   go_ret
   exact⟨ret1 (fx_miss (p:=fun t=> !isT t) (fun j hj=>HN.o j hj (by omega))).symm,HB.o⟩
theorem badfx {l:List Int} : (0≤fx (fun t=> !isT t) l∧l.all isT=false)∨(fx (fun t=> !isT t) l = -1∧l.all isT=true):=by
 cases hf:l.findIdx? (fun t=> !isT t)with
 | none=>
  have h:=List.findIdx?_eq_none_iff.1 hf;exact .inr ⟨fx_miss (p:=fun t=> !isT t) (fun j hj=>h _ (List.getElem_mem hj)),List.all_eq_true.2 fun t ht=>by simpa using h t ht⟩
 | some k=>
  obtain⟨hk,hp,-⟩:=List.findIdx?_eq_some_iff_getElem.1 hf;refine .inl ⟨?_,List.all_eq_false.2 ⟨l[k],List.getElem_mem hk,by simpa using hp⟩⟩
  unfold fx fok fi
  rw [hf];simp
theorem bad_any (x:IL) (w:World) (hin:x.In w) :
  Calls Tryd.prog 83 #[.slice x.h.ao x.l.length x.h.cap,.func (.func 92) #[] #[]] w
   fun e w'=>e = .returned (.bool (!(x.l.all isT)))∧Below w.heap.size w w':=by
 obtain⟨z,hz⟩ : ∃z,fx (fun t=> !isT t) x.l=z:=⟨_,rfl⟩
 have hf:=badfx (l:=x.l)
 rw [hz]at hf;have HZ:=ai hz;clear hz;have HIN:=ai hin;clear hin;rcases hf with⟨h1,h2⟩ | ⟨h1,h2⟩
 ·have HB:=ai h2
  clear h2
  go_enter Tryd.func83,Tryd.ntmps83;go_wp2_with (go_at_call 100;refine(badix_any x _ HIN.o).mono ?_;rintro e w1 ⟨rfl,hb1⟩;rw [HZ.o])
  go_ret
  exact⟨by rw [HB.o];simp,hb1⟩
 ·subst h1
  have HB:=ai h2;clear h2
  go_enter Tryd.func83,Tryd.ntmps83;go_wp2_with (go_at_call 100;refine(badix_any x _ HIN.o).mono ?_;rintro e w1 ⟨rfl,hb1⟩;rw [HZ.o])
  go_ret
  exact⟨by rw [HB.o];rfl,hb1⟩
theorem values_ok (q:Qu) (w:World) (hin:q.flat w) :
  Calls Tryd.prog 62 #[.agg #[.int .i64 q.op,.string q.table,.int .i64 q.kind,.bool q.all,.int .i64 q.cond.op,.int .i64 q.cond.typ,.int .i64 q.cond.num,.string q.cond.text,.int .i64 q.cond.col,.slice q.cond.kh.ao q.cond.kids.length q.cond.kh.cap,.slice q.eh.ao q.exprs.length q.eh.cap,.slice q.ah.ao q.aggs.length q.ah.cap,.slice q.types.h.ao q.types.l.length q.types.h.cap,.slice q.rh.ao q.rows.length q.rh.cap,.slice q.qh.ao q.kids.length q.qh.cap]] w fun e w'=>e = .returned (.int .i64 (valsE q))∧Below w.heap.size w w':=by
 have HB0:=ai (belA (w:=w) (.cells q.lit 57))
 have HBX:=ai (Box.new w q.lit 57);have HIN:=ai (hin.mono HB0.o);have hnt:=hin.ty.1.len;have hnr:=hin.rr.len;clear hin;by_cases h1:q.types.l.length=0
 ·have HV:=ai (valsE_len (q:=q) (.inl h1))
  have h1': ((q.types.l.length:Int) == 0) =true:=by simp [h1]
  have HL:=ai h1;clear h1
  go_enter Tryd.func62,Tryd.ntmps62;go_wp2;go_ret
  exact⟨by rw [HV.o];rfl,HB0.o⟩
 by_cases h24:24<q.types.l.length
 ·have HV:=ai (valsE_len (q:=q) (.inr h24))
  have h1': ((q.types.l.length:Int) == 0) =false:=beq_eq_false_iff_ne.2 (by omega)
  have h24': (24:Int) <q.types.l.length:=by omega
  clear h1 h24
  go_enter Tryd.func62,Tryd.ntmps62;go_wp2;go_ret
  exact⟨by rw [HV.o];rfl,HB0.o⟩
 have HN:=ai (show¬(q.types.l.length=0∨24<q.types.l.length) by omega)
 have h1': ((q.types.l.length:Int) == 0) =false:=beq_eq_false_iff_ne.2 (by omega)
 have h24': ¬(24:Int) <q.types.l.length:=by omega
 clear h1 h24;obtain⟨al,hal⟩ : ∃al,q.types.l.all isT=al:=⟨_,rfl⟩;have HAL:=ai hal
 go_enter Tryd.func62,Tryd.ntmps62;go_upto_region 1 with(fail)
 generalize (w.alloc (.cells q.lit 57)) =W at *;have y12:=HBX.o.cell (j:=12) rfl
 have y13:=HBX.o.cell (j:=13) rfl
 cases al
 ·have HV:=ai (show valsE q=4 by
   obtain⟨t,ht,hb⟩:=List.all_eq_false.1 hal;obtain⟨k,hk,rfl⟩:=List.getElem_of_mem ht;exact valsE_typ HN.o hk (by simpa using hb))
  clear hal;go_wp2_with (go_at_call 83;refine(bad_any q.types _ HIN.o.ty).mono ?_;rintro e w1 ⟨rfl,hb1⟩;rw [HAL.o];have HB1:=ai hb1;clear hb1)
  go_ret
  exact⟨by rw [HV.o];rfl,HB0.o.trans (HB1.o.mono HB0.o.size)⟩
 ·have HT:=ai (show∀j (hj:j<q.types.l.length),isT q.types.l[j] =true from fun j hj=>List.all_eq_true.1 hal _ (List.getElem_mem hj))
  clear hal;go_wp2_with (go_at_call 83;refine(bad_any q.types _ HIN.o.ty).mono ?_;rintro e w1 ⟨rfl,hb1⟩;rw [HAL.o];have HB1:=ai hb1;have z13:=(HBX.o.below hb1).cell (j:=13) rfl;clear hb1 y12 y13)
  have HIN1:=ai (HIN.o.mono HB1.o);have HBX1:=ai (HBX.o.below HB1.o);clear z13;obtain⟨W0,hW0⟩ : ∃x,x=w1:=⟨_,rfl⟩;have HBW:=ai (HB0.o.trans (HB1.o.mono HB0.o.size));clear HIN HBX HB0 HB1;subst hW0;go_loopw [25] (fun i wx=>∃k:Nat,i = .int .i64 k∧k≤q.rows.length∧Hid (∀j (hj:j<q.rows.length),j<k→rowE q.types.l q.rows[j].l=0)∧Hid (Below W0.heap.size W0 wx)) (fun i _=>q.rows.length - (intOf i).toNat)
  case atStart=>exact⟨0,rfl,Nat.zero_le _,fun j hj h=>absurd h (by omega),Below.refl _ _⟩
  case round=>
   obtain⟨k,rfl,hk,H0,HB⟩:=hrel;have HINx:=ai (HIN1.o.mono HB.o);have HBXx:=ai (HBX1.o.below HB.o);have y12:=HBXx.o.cell (j:=12) rfl
   by_cases hlt:k<q.rows.length
   ·have hlti: (k:Int) <q.rows.length:=by omega
    have hixr:=HINx.o.rr.ix hlt Tryd.underlying54 sz69;have c0:=vl_at HINx.o.rr hlt;have hbk:=HINx.o.rr.blk hlt;obtain⟨r,hr⟩ : ∃r,q.rows[k] =r:=⟨_,rfl⟩;have HRK:=ai hr;have HRI:=ai (show r.In wr from hr▸HINx.o.rs _ (List.getElem_mem hlt))
    rw [hr]at c0;clear hr;by_cases hl:r.l.length=q.types.l.length
    ·have hl': ((r.l.length:Int) != (q.types.l.length:Int)) =false:=by simp [hl]
     have HL:=ai hl;have hrl:=HRI.o.1.len;clear hl;go_wp2;obtain⟨W1,hW1⟩ : ∃x,x=wr:=⟨_,rfl⟩;subst hW1;clear y12 hixr c0 hbk hl';go_loopw [37] (fun i wx=>∃m:Nat,i = .int .i64 m∧m≤r.l.length∧Hid (∀j (hj:j<r.l.length) (hj':j<q.types.l.length),j<m→cellB r.l[j] q.types.l[j] =true)∧Hid (Below W1.heap.size W1 wx)) (fun i _=>r.l.length - (intOf i).toNat)
     case atStart=>exact⟨0,rfl,Nat.zero_le _,fun j hj hj' h=>absurd h (by omega),Below.refl _ _⟩
     case round=>
      obtain⟨m,rfl,hm,HC,HM⟩:=hrel;have HINy:=ai (HINx.o.mono HM.o);have HBXy:=ai (HBXx.o.below HM.o);by_cases hmr:m<r.l.length
      ·have hmti: (m:Int) <r.l.length:=by omega
       have hmt:m<q.types.l.length:=by have:=HL.o;omega
       have hri:=HRI.o.mono HM.o;have hixv:=hri.1.ix hmr Tryd.underlying79 szval;obtain⟨d0,d1,d2⟩:=val_at hri.1 hmr;have hbv:=hri.1.blk hmr;have HWF:=ai (hri.2 _ (List.getElem_mem hmr));obtain⟨v,hv⟩ : ∃v,r.l[m] =v:=⟨_,rfl⟩;have HVK:=ai hv;rw [hv]at d0 d1 d2 HWF;have hixt:=IL.ix HINy.o.ty hmt;have e0:=int_at HINy.o.ty.1 hmt;have hbt:=HINy.o.ty.1.blk hmt;obtain⟨t,ht⟩ : ∃t,q.types.l[m] =t:=⟨_,rfl⟩;have HTK:=ai ht;rw [ht]at e0;clear hv ht hri;have y12:=HBXy.o.cell (j:=12) rfl
       have y13:=HBXy.o.cell (j:=13) rfl
       have HCB:=ai (show cellB r.l[m] q.types.l[m] = (validV v && ((v.kind == 0) || (v.kind == t))) by rw [HVK.o,HTK.o];rfl)
       go_upto_region 11 with(fail)
       have HBV:=ai (Box.new wr #[.int .i64 v.kind,.int .i64 v.num,.string v.text] 98);have HBA:=ai (belA (w:=wr) (.cells #[.int .i64 v.kind,.int .i64 v.num,.string v.text] 98))
       have HBY:=ai (HBXy.o.below HBA.o);have HTY:=ai (HINy.o.ty.mono HBA.o);generalize wr.alloc (.cells #[.int .i64 v.kind,.int .i64 v.num,.string v.text] 98) =W2 at *;have g0: ∀w',Below W2.heap.size W2 w'→w'.cell? ⟨wr.heap.size,0,none⟩ =some (.int .i64 v.kind):=fun w' h=>(HBV.o.below h).cell (j:=0) rfl
       have g1: ∀w',Below W2.heap.size W2 w'→w'.cell? ⟨wr.heap.size,1,none⟩ =some (.int .i64 v.num):=fun w' h=>(HBV.o.below h).cell (j:=1) rfl
       have g2: ∀w',Below W2.heap.size W2 w'→w'.cell? ⟨wr.heap.size,2,none⟩ =some (.string v.text):=fun w' h=>(HBV.o.below h).cell (j:=2) rfl
       have g3: ∀w',Below W2.heap.size W2 w'→w'.cell? ⟨w.heap.size,12,none⟩ =some (.slice q.types.h.ao q.types.l.length q.types.h.cap):=fun w' h=>(HBY.o.below h).cell (j:=12) rfl
       have g4: ∀w',Below W2.heap.size W2 w'→w'.cell? ⟨q.types.h.b,q.types.h.o+m,none⟩ =some (.int .i64 t):=fun w' h=>by
        have:=int_at (HTY.o.mono h).1 hmt;rw [HTK.o]at this;exact this
       clear y12 y13 d0 d1 d2 e0 hixv hbv;have o0:=g0 W2 (Below.refl _ _);have o1:=g1 W2 (Below.refl _ _);have o2:=g2 W2 (Below.refl _ _);obtain⟨a,hav⟩ : ∃a,validV v=a:=⟨_,rfl⟩;have HAV:=ai hav;clear hav
       cases a
       case false=>
        have HV:=ai (valsE_row HN.o HT.o hlt H0.o (v:=4) (by rw [HRK.o];exact rowE_4 HL.o hmr hmt (by rw [HCB.o,HAV.o];simp [*])) (by decide))
        go_region_law (first
         | (go_simp;go_at_call 93;refine(vval_any v HWF.o _).mono ?_;rintro e x1 ⟨rfl,hb1⟩;rw [HAV.o];have hb2:=bel_drew hb1;have HX:=ai hb2;have p0:=g0 x1 hb2;have p1:=g1 x1 hb2;have p2:=g2 x1 hb2;have p3:=g3 x1 hb2;have p4:=g4 x1 hb2;clear hb1 hb2;go_simp;(first| (refine(‹∀(a:Act) (w:World),wpAny _ _ _ _ _ _ a w→_›) _ _ ?_) | (trace "FAIL K";trace_state;fail));(first| (refine wpAny_take (i:=2) (v:=.bool true) rfl (by kernel_rfl) (by kernel_rfl) (by kernel_rfl) (fun _ _ _ h=>h) (Or.inl ⟨by rfl,fun w=>by go_simp⟩) ?_) | (trace "FAIL 2";trace_state;fail));(first| (refine wpAny_take (i:=3) (v:=.bool true) rfl (by kernel_rfl) (by kernel_rfl) (by kernel_rfl) (fun _ _ _ h=>h) (Or.inl ⟨by rfl,fun w=>by go_simp⟩) ?_) | (trace "FAIL 3";trace_state;fail));(first| (refine wpAny_take (i:=4) (v:=undef) rfl (by kernel_rfl) (by kernel_rfl) (by kernel_rfl) (fun _ _ _ h=>h) (Or.inr ⟨by rfl,rfl⟩) ?_) | (trace "FAIL 4";trace_state;fail));(first| (refine wpAny_take (i:=5) (v:=undef) rfl (by kernel_rfl) (by kernel_rfl) (by kernel_rfl) (fun _ _ _ h=>h) (Or.inr ⟨by rfl,rfl⟩) ?_) | (trace "FAIL 5";trace_state;fail));(first| (refine wpAny_take (i:=6) (v:=undef) rfl (by kernel_rfl) (by kernel_rfl) (by kernel_rfl) (fun _ _ _ h=>h) (Or.inr ⟨by rfl,rfl⟩) ?_) | (trace "FAIL 6";trace_state;fail));(first| (refine wpAny_take (i:=7) (v:=undef) rfl (by kernel_rfl) (by kernel_rfl) (by kernel_rfl) (fun _ _ _ h=>h) (Or.inr ⟨by rfl,rfl⟩) ?_) | (trace "FAIL 7";trace_state;fail));(first| (refine wpAny_take (i:=8) (v:=undef) rfl (by kernel_rfl) (by kernel_rfl) (by kernel_rfl) (fun _ _ _ h=>h) (Or.inr ⟨(by go_simp;try simp [undef]),rfl⟩) ?_) | (trace "FAIL 8";trace_state;fail));(first| (refine wpAny_take (i:=9) (v:=undef) rfl (by kernel_rfl) (by kernel_rfl) (by kernel_rfl) (fun _ _ _ h=>h) (Or.inr ⟨(by go_simp;try simp [undef]),rfl⟩) ?_) | (trace "FAIL 9";trace_state;fail));(first| (refine wpAny_take (i:=10) (v:=undef) rfl (by kernel_rfl) (by kernel_rfl) (by kernel_rfl) (fun _ _ _ h=>h) (Or.inr ⟨(by go_simp;try simp [undef]),rfl⟩) ?_) | (trace "FAIL 10";trace_state;fail));(first| (refine wpAny_take (i:=11) (v:=undef) rfl (by kernel_rfl) (by kernel_rfl) (by kernel_rfl) (fun _ _ _ h=>h) (Or.inr ⟨(by go_simp;try simp [undef]),rfl⟩) ?_) | (trace "FAIL 11";trace_state;fail));(first| (refine wpAny_take (i:=12) (v:=undef) rfl (by kernel_rfl) (by kernel_rfl) (by kernel_rfl) (fun _ _ _ h=>h) (Or.inr ⟨(by go_simp;try simp [undef]),rfl⟩) ?_) | (trace "FAIL 12";trace_state;fail));(first| (refine wpAny_take (i:=13) (v:=undef) rfl (by kernel_rfl) (by kernel_rfl) (by kernel_rfl) (fun _ _ _ h=>h) (Or.inr ⟨(by go_simp;try simp [undef]),rfl⟩) ?_) | (trace "FAIL 13";trace_state;fail));(first| (refine wpAny_take (i:=14) (v:=undef) rfl (by kernel_rfl) (by kernel_rfl) (by kernel_rfl) (fun _ _ _ h=>h) (Or.inr ⟨(by go_simp;try simp [undef]),rfl⟩) ?_) | (trace "FAIL 14";trace_state;fail));(first| (refine wpAny_take (i:=15) (v:=undef) rfl (by kernel_rfl) (by kernel_rfl) (by kernel_rfl) (fun _ _ _ h=>h) (Or.inr ⟨(by go_simp;try simp [undef]),rfl⟩) ?_) | (trace "FAIL 15";trace_state;fail));(first| (refine wpAny_take (i:=16) (v:=undef) rfl (by kernel_rfl) (by kernel_rfl) (by kernel_rfl) (fun _ _ _ h=>h) (Or.inr ⟨(by go_simp;try simp [undef]),rfl⟩) ?_) | (trace "FAIL 16";trace_state;fail))))
        clear g0 g1 g2 g3 g4 hixt hbt;go_wp2;go_ret
        exact⟨by rw [HV.o];rfl,HBW.o.trans ((bT (bT (bT HB.o HM.o) HBA.o) HX.o).mono HBW.o.size)⟩
       case true=>
        by_cases k0:v.kind=0
        ·have k0': (v.kind != 0) =false:=by simp [k0]
         have HG:=ai (show cellB r.l[m] q.types.l[m] =true by rw [HCB.o,HAV.o];simp [*])
         clear k0
         go_region_law (first
          | (go_simp;go_at_call 93;refine(vval_any v HWF.o _).mono ?_;rintro e x1 ⟨rfl,hb1⟩;rw [HAV.o];have hb2:=bel_drew hb1;have HX:=ai hb2;have p0:=g0 x1 hb2;have p1:=g1 x1 hb2;have p2:=g2 x1 hb2;have p3:=g3 x1 hb2;have p4:=g4 x1 hb2;clear hb1 hb2;go_simp;refine(‹∀(a:Act) (w:World),wpAny _ _ _ _ _ _ a w→_›) _ _ ?_;refine wpAny_take (i:=2) (v:=.bool false) rfl (by kernel_rfl) (by kernel_rfl) (by kernel_rfl) (fun _ _ _ h=>h) (Or.inl ⟨by rfl,fun w=>by go_simp⟩) ?_;refine wpAny_take (i:=3) (v:=.bool false) rfl (by kernel_rfl) (by kernel_rfl) (by kernel_rfl) (fun _ _ _ h=>h) (Or.inl ⟨by rfl,fun w=>by go_simp⟩) ?_;refine wpAny_take (i:=4) (v:=.pointer (some ⟨wr.heap.size,0,none⟩)) rfl (by kernel_rfl) (by kernel_rfl) (by kernel_rfl) (fun _ _ _ h=>h) (Or.inl ⟨by rfl,fun w=>by go_simp⟩) ?_;refine wpAny_ready (rs:= [5]) (by kernel_rfl) (by simp) ?_;refine AllReady.cons rfl (fun K hK=> ?_) AllReady.nil;go_simp;refine hK _ _ ?_;refine wpAny_take (i:=6) (v:=.bool false) rfl (by kernel_rfl) (by kernel_rfl) (by kernel_rfl) (fun _ _ _ h=>h) (Or.inl ⟨by rfl,fun w=>by go_simp⟩) ?_;refine wpAny_take (i:=7) (v:=.bool false) rfl (by kernel_rfl) (by kernel_rfl) (by kernel_rfl) (fun _ _ _ h=>h) (Or.inl ⟨by rfl,fun w=>by go_simp⟩) ?_;refine wpAny_take (i:=8) (v:=undef) rfl (by kernel_rfl) (by kernel_rfl) (by kernel_rfl) (fun _ _ _ h=>h) (Or.inr ⟨(by go_simp;try simp [undef]),rfl⟩) ?_;refine wpAny_take (i:=9) (v:=undef) rfl (by kernel_rfl) (by kernel_rfl) (by kernel_rfl) (fun _ _ _ h=>h) (Or.inr ⟨(by go_simp;try simp [undef]),rfl⟩) ?_;refine wpAny_take (i:=10) (v:=undef) rfl (by kernel_rfl) (by kernel_rfl) (by kernel_rfl) (fun _ _ _ h=>h) (Or.inr ⟨(by go_simp;try simp [undef]),rfl⟩) ?_;refine wpAny_take (i:=11) (v:=undef) rfl (by kernel_rfl) (by kernel_rfl) (by kernel_rfl) (fun _ _ _ h=>h) (Or.inr ⟨(by go_simp;try simp [undef]),rfl⟩) ?_;refine wpAny_take (i:=12) (v:=undef) rfl (by kernel_rfl) (by kernel_rfl) (by kernel_rfl) (fun _ _ _ h=>h) (Or.inr ⟨(by go_simp;try simp [undef]),rfl⟩) ?_;refine wpAny_take (i:=13) (v:=undef) rfl (by kernel_rfl) (by kernel_rfl) (by kernel_rfl) (fun _ _ _ h=>h) (Or.inr ⟨(by go_simp;try simp [undef]),rfl⟩) ?_;refine wpAny_take (i:=14) (v:=undef) rfl (by kernel_rfl) (by kernel_rfl) (by kernel_rfl) (fun _ _ _ h=>h) (Or.inr ⟨(by go_simp;try simp [undef]),rfl⟩) ?_;refine wpAny_take (i:=15) (v:=undef) rfl (by kernel_rfl) (by kernel_rfl) (by kernel_rfl) (fun _ _ _ h=>h) (Or.inr ⟨(by go_simp;try simp [undef]),rfl⟩) ?_))
         clear g0 g1 g2 g3 g4 hixt hbt
         all_goals
          go_wp2;go_roundw
         all_goals first
          | (case rel=>
            refine⟨m+1,by go_num,by omega,fun j hj hj' h=> ?_,bT (bT HM.o HBA.o) HX.o⟩
            by_cases e:j=m
            ·subst e;exact HG.o
            ·exact HC.o j hj hj' (by omega))
          | (case measure=>simp [intOf];omega)
        ·have k0': (v.kind != 0) =true:=bne_iff_ne.2 k0
         by_cases kt:v.kind=t
         ·have kt': (v.kind != t) =false:=by simp [kt]
          have HG:=ai (show cellB r.l[m] q.types.l[m] =true by rw [HCB.o,HAV.o];simp [kt])
          clear k0 kt
          go_region_law (first
           | (go_simp;go_at_call 93;refine(vval_any v HWF.o _).mono ?_;rintro e x1 ⟨rfl,hb1⟩;rw [HAV.o];have hb2:=bel_drew hb1;have HX:=ai hb2;have p0:=g0 x1 hb2;have p1:=g1 x1 hb2;have p2:=g2 x1 hb2;have p3:=g3 x1 hb2;have p4:=g4 x1 hb2;clear hb1 hb2))
          clear g0 g1 g2 g3 g4 hixt hbt
          all_goals
           go_wp2;go_roundw
          all_goals first
           | (case rel=>
             refine⟨m+1,by go_num,by omega,fun j hj hj' h=> ?_,bT (bT HM.o HBA.o) HX.o⟩
             by_cases e:j=m
             ·subst e;exact HG.o
             ·exact HC.o j hj hj' (by omega))
           | (case measure=>simp [intOf];omega)
         ·have kt': (v.kind != t) =true:=bne_iff_ne.2 kt
          have HV:=ai (valsE_row HN.o HT.o hlt H0.o (v:=4) (by rw [HRK.o];exact rowE_4 HL.o hmr hmt (by rw [HCB.o,HAV.o];simp [k0,kt])) (by decide))
          clear k0 kt
          go_region_law (first
           | (go_simp;go_at_call 93;refine(vval_any v HWF.o _).mono ?_;rintro e x1 ⟨rfl,hb1⟩;rw [HAV.o];have hb2:=bel_drew hb1;have HX:=ai hb2;have p0:=g0 x1 hb2;have p1:=g1 x1 hb2;have p2:=g2 x1 hb2;have p3:=g3 x1 hb2;have p4:=g4 x1 hb2;clear hb1 hb2))
          clear g0 g1 g2 g3 g4 hixt hbt
          all_goals
           go_wp2;go_ret
           exact⟨by rw [HV.o];rfl,HBW.o.trans ((bT (bT (bT HB.o HM.o) HBA.o) HX.o).mono HBW.o.size)⟩
      ·have hmti: ¬(m:Int) <r.l.length:=by omega
       have HRE:=ai (show rowE q.types.l q.rows[k].l=0 by rw [HRK.o];exact rowE_0 HL.o (fun j hj hj'=>HC.o j hj hj' (by omega)))
       go_wp2;go_roundw
       case rel=>
        refine⟨k+1,by go_num,by omega,fun j hj h=> ?_,bT HB.o HM.o⟩
        by_cases e:j=k
        ·subst e;exact HRE.o
        ·exact H0.o j hj (by omega)
       case measure=>simp [intOf];omega
    ·have hl': ((r.l.length:Int) != (q.types.l.length:Int)) =true:=by simp;omega
     have HV:=ai (valsE_row HN.o HT.o hlt H0.o (v:=9) (by rw [HRK.o];exact rowE_9 hl) (by decide))
     have hrl:=HRI.o.1.len;clear hl;go_wp2;go_ret
     exact⟨by rw [HV.o];rfl,HBW.o.trans (HB.o.mono HBW.o.size)⟩
   ·have hlti: ¬(k:Int) <q.rows.length:=by omega
    have HV:=ai (valsE_ok HN.o HT.o (fun j hj=>H0.o j hj (by omega)))
    go_wp2;go_ret
    exact⟨by rw [HV.o];rfl,HBW.o.trans (HB.o.mono HBW.o.size)⟩
end Go.Proofs.YtogalchclmmfgaaDoor
namespace Go.Proofs.YtogalchclmmfgaaDoor
open Go.RowKit
theorem types_new (x:Tab) (w:World) (hin:x.In w) (hsm:x.cols.length≤100) :
  Calls Tryd.prog 50 #[.agg #[.string x.name,.slice x.ch.ao x.cols.length x.ch.cap,.slice x.prim.h.ao x.prim.l.length x.prim.h.cap,.slice x.uh.ao x.uniqs.length x.uh.cap,.slice x.fh.ao x.fors.length x.fh.cap,.slice x.kh.ao x.checks.length x.kh.cap]] w
   fun e w'=>(∃r:IL,e = .returned (.slice r.h.ao r.l.length r.h.cap)∧r.l=x.cols.map Col.typ∧r.In w'∧(0<r.l.length→w.heap.size≤r.h.b))∧Below w.heap.size w w':=by
 have hn:=hin.rc.len;obtain⟨i0,hi,hz0,hz1,hz2⟩:=info_parts info3;have HI:=ai (And.intro hi (And.intro hz0 (And.intro hz1 hz2)));clear hi hz0 hz1 hz2
 go_enter Tryd.func50,Tryd.ntmps50;go_wp2;go_loopw [3,9] (fun v i wr=>∃k:Nat,k≤x.cols.length∧i = .int .i64 k∧wr.ownsRow w.heap.size 3 1 v k ((x.cols.take k).flatMap ctyp)∧Below w.heap.size w wr) (fun _ i _=>x.cols.length - (intOf i).toNat)
 case atStart=>exact⟨0,Nat.zero_le _,rfl,World.ownsRow_nil _ _ _ _,belA _⟩
 case round=>
  obtain⟨k,hk,rfl,hown,hbw⟩:=hrel;have HB:=ai hbw;have HO:=ai hown;have hin':=hin.mono hbw;clear hbw hown;by_cases hlt:k<x.cols.length
  ·have hix:=hin'.rc.ix hlt Tryd.underlying34 sz30
   obtain⟨c0,c1,c2⟩:=col_at hin'.rc hlt;have hbb:=hin'.rc.blk hlt;go_wp2_with (at_builtin;refine wpList_append_own _ rfl _ _ 22 rfl w.heap.size 3 i0 (.int .i64 0) 1 8 Tryd.underlying22 HI.o.1 HI.o.2.1 HI.o.2.2.1 HI.o.2.2.2 rfl (by decide) _ _ _ rfl ((HO.o.alloc _).alloc _) ⟨wr.heap.size+1,0,none⟩ 1 1 [.int .i64 x.cols[k].typ] rfl rfl ?c1 ?c2 ?c3 ?c4 ?c5 ?_)
   case c1=>exact new_cells1 (l:= [_])
   case c2=>exact one_int
   case c3=>unfold maxLen;omega
   case c4=>omega
   case c5=>have:=HB.o.size;simp;omega
   intro v' w1 hown' hgrow _;have HO':=ai (own_snoc hlt hown');have HG:=ai hgrow;clear hown' hgrow;go_wp2;go_roundw
   case rel=>
    refine⟨k+1,by omega,by go_num,HO'.o,?_⟩
    exact grown2 HB.o HB.o.size HG.o (fun b hb=>(HO.o.lt b hb).1)
   case measure=>simp [intOf];omega
  ·go_wp2
   go_ret
   have hk':k=x.cols.length:=by omega
   refine⟨?_,HB.o⟩
   have ho:=HO.o;rw [hk',List.take_length,ctyp_icells]at ho;obtain⟨r,hv,hr,hin2⟩:=il_mk ho (typs_wf hin);exact⟨r,congrArg Ending.returned hv,hr,hin2,fun hp=>by have:=own_from (hv▸HO.o) hp;omega⟩
end Go.Proofs.YtogalchclmmfgaaDoor
namespace Go.Proofs.YtogalchclmmfgaaDoor
open Go.RowKit
theorem app_il {w:World} {ops:Array Oper} {rest:List Oper} {o:Oper} {a:Act} {Q:Exit→Act→World→Prop} (hgd:o.guard=none) (s x:Operand)
  (ho:o.op = .call { callee:=.builtin .append,args:=#[s,x],argTypes:=#[22,22] })
  (base:Nat) (v:Value) (n:Nat) (xs:List Value) (hs:a.eval s=v) (hown:w.ownsRow base 3 1 v n xs) (y:IL) (hy:y.In w) (hx:a.eval x = .slice y.h.ao y.l.length y.h.cap) (hm:n+y.l.length≤1000000) (hbase:base≤w.heap.size)
  (h: ∀v' w',w'.ownsRow base 3 1 v' (n+y.l.length) (xs ++ y.l.flatMap icells)→w.grownBy w' v.ownBlock→wpList Tryd.prog ops Q rest (a.put o.dst v') w') :wpList Tryd.prog ops Q (o :: rest) a w:=by
 obtain⟨i0,hi,hz0,hz1,hz2⟩:=info_parts info3;by_cases h0:y.l.length=0
 ·have hl:y.l = []:=List.length_eq_zero_iff.1 h0
  rw [hl]at h hx;refine wpList_append_zero hgd s x 22 ho base 3 i0 1 Tryd.underlying22 hi v n xs hs hown y.h.ao y.h.cap hx (h v w ?_ (World.grownBy.refl _ _))
  simpa using hown
 ·obtain⟨hao,hnews⟩:=row_news (size:=1) (cells:=icells) (fun _=>rfl) (by decide) hy.1 (by omega)
  refine wpList_append_own w hgd s x 22 ho base 3 i0 (.int .i64 0) 1 8 Tryd.underlying22 hi hz0 hz1 hz2 rfl (by decide) v n xs hs hown ⟨y.h.b,y.h.o,none⟩ y.l.length y.h.cap (y.l.flatMap icells) (by rw [hx,hao]) (flatMap_len (size:=1) (cells:=icells) (fun _=>rfl) _) hnews (fun u hu=>by
   obtain⟨k,_,hk⟩:=List.mem_flatMap.1 hu;rw [List.mem_singleton.1 hk]
   rfl) (by unfold maxLen;omega) (by omega) hbase (fun v' w' h1 h2 _=>h v' w' h1 h2)
theorem szil2: (Tryd.prog.info? 22).map (·.size) =some 1:=by kernel_rfl
theorem und_int:Tryd.prog.underlying 3=some (.int .i64):=by kernel_rfl
theorem grow_nil (n:Nat) (hn:n≤1000000) (w:World) :
  Calls Tryd.prog 111 #[.slice none 0 0,.int .i64 n] w fun e w'=>(∃v:Value,e = .returned v∧w'.ownsRow w.heap.size 3 1 v 0 [])∧Below w.heap.size w w':=by
 obtain⟨i0,hi,hz0,hz1,hz2⟩:=info_parts info3;have h1: ¬((n:Int) <0):=by omega
 by_cases h0:n=0
 ·subst h0
  clear hi hz0 hz1 hz2
  go_enter Tryd.func111,Tryd.ntmps111;go_wp2;go_ret
  exact⟨⟨_,rfl,World.ownsRow_nil _ _ _ _⟩,Below.refl _ _⟩
 ·have h4: (n:Int) > 0:=by omega
  have hrz: ∀ty,(Builtin.append_ #[22,3] ty #[.slice none 0 0,.int .i64 (n:Int)]).run Tryd.prog w =
    .ok (.slice (some ⟨w.heap.size,0,none⟩) n (grownCap w n 0 3)) (w.drew.alloc (.cells ((#[] :Array Value) ++ Builtin.zeroCells (Value.int .i64 0).cells n ++ Builtin.zeroCells (Value.int .i64 0).cells (grownCap w n 0 3 - n)) 3)):=fun ty=>by
   have h:=Lib.run_append_grow_zeros w 22 3 ty 3 i0 (.int .i64 0) .i64 .i64 Tryd.underlying22 und_int hi hz0 none 0 0 [] (run_firstCells_none w.drew i0.size 0 0 0) n (by omega) (by omega) (by omega) (by omega)
    (by rw [hz2];omega)
    (by have:=growslice_fits (need:=0+n) (old:=0) (bytes:=i0.bytes) (by omega) (by rw [hz2];omega);exact this)
   rw [Nat.zero_add]at h;exact h
  have hGn:n≤grownCap w n 0 3:=grownCap_ge w _ _ _;have hG63:grownCap w n 0 3≤maxLen:=grownCap_le_maxLen w n 0 3 (by unfold maxLen;omega)
  obtain⟨G,hG⟩ : ∃G,G=grownCap w n 0 3:=⟨_,rfl⟩;rw [←hG]at hrz hGn hG63;have HGM:=ai hG63;have hG64:G≤9223372036854775807:=by unfold maxLen at hG63;omega
  clear hG hG63 hi hz0 hz1 hz2
  go_enter Tryd.func111,Tryd.ntmps111;go_wp2_with (at_builtin;refine Lib.wpList_append_run _ rfl _ _ _ _ rfl _ _ rfl rfl _ _ (hrz _) ?_)
  go_ret
  refine⟨⟨_,rfl,rfl,.inr ⟨w.heap.size,G,Builtin.zeroCells #[Value.int .i64 0] n ++ Builtin.zeroCells #[Value.int .i64 0] (G - n),rfl,Nat.le_refl _,?_,Nat.zero_le _,HGM.o,?_,by simp⟩⟩,(belA _).drew⟩
  ·exact Box.new w (Builtin.zeroCells #[Value.int .i64 0] n ++ Builtin.zeroCells #[Value.int .i64 0] (G - n)) 3
  ·simp [Builtin.zeroCells]
   omega
theorem lens_take {xs:List IL} {k:Nat} (h:k<xs.length) : ((xs.take (k+1)).map fun x=>x.l.length).sum= ((xs.take k).map fun x=>x.l.length).sum+xs[k].l.length:=sum_take (fun x:IL=>x.l.length) h
theorem flats_take {xs:List IL} {k:Nat} (h:k<xs.length) : ((xs.take (k+1)).flatMap IL.l) = ((xs.take k).flatMap IL.l) ++ xs[k].l:=by
 rw [List.take_succ_eq_append_getElem h,List.flatMap_append];simp
theorem sum_le {f:IL→Nat} {l:List IL} {n:Nat} (h: ∀x∈l,f x≤n) : (l.map f).sum≤l.length*n:=by
 induction l with
 | nil=>simp
 | cons x l ih=>
  have h1:=h x (by simp)
  have h2:=ih (fun y hy=>h y (by simp [hy]))
  simp only [List.map_cons,List.sum_cons,List.length_cons,Nat.add_mul];omega
def szs (xs:List IL) (k:Nat) :Nat:=((xs.take k).map fun x=>x.l.length).sum
theorem szs_succ {xs:List IL} {k:Nat} (h:k<xs.length) :szs xs (k+1) =szs xs k+xs[k].l.length:=lens_take h
theorem szs_le {xs:List IL} (hsm: ∀x∈xs,x.l.length≤1000) (hl:xs.length≤10) (k:Nat) :szs xs k≤10000:=by
 unfold szs
 have:=sum_le (f:=fun x=>x.l.length) (l:=xs.take k) (n:=1000) (fun x hx=>hsm x (List.mem_of_mem_take hx))
 have h2: (xs.take k).length≤10:=by rw [List.length_take];omega
 have:=Nat.mul_le_mul_right 1000 h2;omega
theorem concat_any (h:Hd) (xs:List IL) (w:World) (hrow:Row w 1 IL.cells h xs) (hin: ∀x∈xs,x.In w) (hsm: ∀x∈xs,x.l.length≤1000) (hl:xs.length≤10) :
  Calls Tryd.prog 94 #[.slice h.ao xs.length h.cap] w fun e w'=>(∃o:IL,e = .returned (.slice o.h.ao o.l.length o.h.cap)∧o.l=xs.flatMap IL.l∧o.In w'∧OwnIL w.heap.size w' o)∧Below w.heap.size w w':=by
 have HROW:=ai hrow;have HIN:=ai hin;have HSM:=ai hsm;have hsum: ∀k,szs xs k≤10000:=szs_le hsm hl;have HSUM:=ai hsum;clear hrow hin hsm hsum
 go_enter Tryd.func94,Tryd.ntmps94;go_wp2;go_loopw [3,11] (fun v i wr=>∃k:Nat,k≤xs.length∧i = .int .i64 k∧v = .int .i64 (szs xs k:Nat)∧Hid (wr=w)) (fun _ i _=>xs.length - (intOf i).toNat)
 case atStart=>exact⟨0,Nat.zero_le _,rfl,rfl,rfl⟩
 case round=>
  obtain⟨k,hk,rfl,rfl,hw⟩:=hrel;have hw':=hw.o;clear hw;subst hw';have hsk:=HSUM.o k;by_cases hlt:k<xs.length
  ·have hlti: (k:Int) <xs.length:=by omega
   have hix:=HROW.o.ix hlt Tryd.underlying35 szil2;have c0:=il_at HROW.o hlt;have hb:=HROW.o.blk hlt;have hs1:=HSUM.o (k+1);have HT:=ai (szs_succ hlt);rw [HT.o]at hs1;have hwr:wrap64 ((szs xs k:Nat) + (xs[k].l.length:Int)) = ((szs xs k+xs[k].l.length:Nat) :Int):=by unfold wrap64;omega
   have hno: ¬(((szs xs k+xs[k].l.length:Nat) :Int) <0):=by omega
   go_wp2;go_roundw
   case rel=>exact⟨k+1,by omega,by go_num,by rw [HT.o,Int.natCast_add],ai trivial⟩
   case measure=>simp [intOf];omega
  ·have hlti: ¬(k:Int) <xs.length:=by omega
   have hke:k=xs.length:=by omega
   subst hke;obtain⟨W0,hW0⟩ : ∃x,x=wr:=⟨_,rfl⟩;subst hW0;generalize hN:szs xs xs.length=N at hsk;clear hN;go_wp2_with (go_at_call 111;refine(grow_nil N (by omega) _).mono ?_;rintro e w2 ⟨⟨v,rfl,hov⟩,hb2⟩;have HOV:=ai hov;have HB2:=ai hb2;clear hov hb2)
   go_loopw [6,27] (fun v i wx=>∃k:Nat,k≤xs.length∧i = .int .i64 k∧Hid (wx.ownsRow W0.heap.size 3 1 v (szs xs k) (((xs.take k).flatMap IL.l).flatMap icells))∧Hid (Below W0.heap.size W0 wx)) (fun _ i _=>xs.length - (intOf i).toNat)
   case atStart=>exact⟨0,Nat.zero_le _,rfl,HOV.o,HB2.o⟩
   case round=>
    obtain⟨k,hk,rfl,HO,HB⟩:=hrel;clear HOV HB2;by_cases hlt:k<xs.length
    ·have hlti2: (k:Int) <xs.length:=by omega
     have HR2:=ai (HROW.o.mono HB.o);have hix:=HR2.o.ix hlt Tryd.underlying35 szil2;have c0:=il_at HR2.o hlt;have hb:=HR2.o.blk hlt;have hs1:=HSUM.o (k+1);have HT:=ai (szs_succ hlt);have HTF:=ai (flats_take hlt);rw [HT.o]at hs1;have HX:=ai ((HIN.o _ (List.getElem_mem hlt)).mono HB.o);obtain⟨x,hx⟩ : ∃x,xs[k] =x:=⟨_,rfl⟩;rw [hx]at c0 HT HTF HX hs1;clear hx;go_wp2_with (at_builtin;refine app_il rfl _ _ rfl W0.heap.size _ _ _ rfl HO.o x HX.o rfl (by omega) HB.o.size ?_;intro v' w3 hown' hgrow;have HOW:=ai hown';have HGW:=ai hgrow;clear hown' hgrow)
     go_roundw
     case rel=>
      refine⟨k+1,by omega,by go_num,?_,?_⟩
      ·show Hid _
       rw [HT.o,HTF.o,List.flatMap_append];exact HOW.o
      ·exact grown0 HB.o HB.o.size HGW.o (fun g e=>(HO.o.lt g e).1)
     case measure=>simp [intOf];omega
    ·have hlti2: ¬(k:Int) <xs.length:=by omega
     have hke:k=xs.length:=by omega
     have ho:=HO.o;rw [hke,List.take_length]at ho;obtain⟨o,hv,ho1,ho2,ho3⟩:=il_own ho (fun n hn=>by
      obtain⟨x,hx,hnx⟩:=List.mem_flatMap.1 hn;exact(HIN.o x hx).2 n hnx)
     have HV:=ai hv;have HO2:=ai ho2;have HO3:=ai ho3;clear ho hv ho2 ho3;go_wp2;go_ret
     exact⟨⟨o,by rw [HV.o];rfl,ho1,HO2.o,HO3.o⟩,HB.o⟩
end Go.Proofs.YtogalchclmmfgaaDoor

/- A part of the proof of AlgebraMade. -/
import Derived.Test.YtogalchclmmfgaaDoorP16
import Derived.Test.YtogalchclmmfgaaDoorP18
import Derived.Test.YtogalchclmmfgaaDoorP09
import Derived.Test.YtogalchclmmfgaaDoorP02
import Derived.Test.YtogalchclmmfgaaDoorP03
import Derived.Test.YtogalchclmmfgaaDoorP04
import Derived.Deep.RegionHeld3
import Derived.Deep.QuietTactic
import Derived.BigQuiet
set_option maxRecDepth 100000
set_option maxHeartbeats 16000000
namespace Go.Proofs.YtogalchclmmfgaaDoor
open Go.RowKit
noncomputable def cellB (v:V) (t:Int) :Bool:=validV v && ((v.kind == 0) || (v.kind == t))
def rowOk (ts:List Int) (r:List V) :Prop:=∀k (h:k<r.length) (h':k<ts.length),cellB r[k] ts[k] =true
open Classical in
noncomputable def rowE (ts:List Int) (r:List V) :Int:=if r.length≠ts.length then 9 else if rowOk ts r then 0 else 4
open Classical in
noncomputable def valsE (q:Qu) :Int:=if q.types.l.length=0∨24<q.types.l.length then 4 else if (∀t∈q.types.l,isT t=true) then firstE (q.rows.map fun r=>rowE q.types.l r.l) else 4
theorem valsE_len {q:Qu} (h:q.types.l.length=0∨24<q.types.l.length) :valsE q=4:=by unfold valsE;rw [if_pos h]
theorem valsE_typ {q:Qu} (h: ¬(q.types.l.length=0∨24<q.types.l.length)) {k:Nat} (hk:k<q.types.l.length) (ht:isT q.types.l[k] =false) :valsE q=4:=by
 unfold valsE
 rw [if_neg h,if_neg];intro h2;have:=h2 _ (List.getElem_mem hk);rw [ht]at this
 cases this
theorem valsE_row {q:Qu} (h: ¬(q.types.l.length=0∨24<q.types.l.length)) (ht: ∀k (hk:k<q.types.l.length),isT q.types.l[k] =true) {k:Nat} (hk:k<q.rows.length) (h0: ∀j (hj:j<q.rows.length),j<k→rowE q.types.l q.rows[j].l=0) {v:Int} (hv:rowE q.types.l q.rows[k].l=v) (hne:v≠0) :valsE q=v:=by
 unfold valsE
 rw [if_neg h,if_pos (fun t ht'=>by obtain⟨k,hk,rfl⟩:=List.getElem_of_mem ht';exact ht k hk)]
 have hl:k< (q.rows.map fun r=>rowE q.types.l r.l).length:=by simpa using hk
 have:=firstE_at hl (fun j hj h=>by rw [List.getElem_map];exact h0 j (by simpa using hj) h) (by rw [List.getElem_map,hv];exact hne) []
 rw [List.append_nil,List.getElem_map,hv]at this;exact this
theorem valsE_ok {q:Qu} (h: ¬(q.types.l.length=0∨24<q.types.l.length)) (ht: ∀k (hk:k<q.types.l.length),isT q.types.l[k] =true) (h0: ∀j (hj:j<q.rows.length),rowE q.types.l q.rows[j].l=0) :valsE q=0:=by
 unfold valsE
 rw [if_neg h,if_pos (fun t ht'=>by obtain⟨k,hk,rfl⟩:=List.getElem_of_mem ht';exact ht k hk)]
 have:=firstE_app0 (a:=q.rows.map fun r=>rowE q.types.l r.l) [] (fun e he=>by
  obtain⟨j,hj,rfl⟩:=List.getElem_of_mem he;rw [List.getElem_map];exact h0 j (by simpa using hj))
 rw [List.append_nil]at this;rw [this];rfl
theorem rowE_9 {ts:List Int} {r:List V} (h:r.length≠ts.length) :rowE ts r=9:=by unfold rowE;rw [if_pos h]
theorem rowE_4 {ts:List Int} {r:List V} (h:r.length=ts.length) {k:Nat} (hk:k<r.length) (hk':k<ts.length) (hc:cellB r[k] ts[k] =false) :rowE ts r=4:=by
 unfold rowE
 rw [if_neg (by simpa using h),if_neg]
 intro h2;have:=h2 k hk hk';rw [hc]at this
 cases this
theorem rowE_0 {ts:List Int} {r:List V} (h:r.length=ts.length) (h0: ∀k (hk:k<r.length) (hk':k<ts.length),cellB r[k] ts[k] =true) :rowE ts r=0:=by
 unfold rowE
 rw [if_neg (by simpa using h),if_pos (show rowOk ts r from h0)]
theorem rvalues_any (q:Qu) (w:World) (hin:q.flat w) :
  Calls Tryd.prog 72 #[.agg #[.int .i64 q.op,.string q.table,.int .i64 q.kind,.bool q.all,.int .i64 q.cond.op,.int .i64 q.cond.typ,.int .i64 q.cond.num,.string q.cond.text,.int .i64 q.cond.col,.slice q.cond.kh.ao q.cond.kids.length q.cond.kh.cap,.slice q.eh.ao q.exprs.length q.eh.cap,.slice q.ah.ao q.aggs.length q.ah.cap,.slice q.types.h.ao q.types.l.length q.types.h.cap,.slice q.rh.ao q.rows.length q.rh.cap,.slice q.qh.ao q.kids.length q.qh.cap]] w fun e w'=>
   ((valsE q≠0∧e = .returned (.tuple #[.slice none 0 0,.int .i64 (valsE q)]))∨(valsE q=0∧e = .returned (.tuple #[.slice q.types.h.ao q.types.l.length q.types.h.cap,.int .i64 0])))∧Below w.heap.size w w':=by
 have HB0:=ai (belA (w:=w) (.cells q.lit 57))
 have HBX:=ai (Box.new w q.lit 57);have HIN:=ai (hin.mono HB0.o);have hnt:=hin.ty.1.len;have hnr:=hin.rr.len;clear hin;by_cases h1:q.types.l.length=0
 ·have HV:=ai (valsE_len (q:=q) (.inl h1))
  have h1': (q.types.l.length:Int) <1:=by omega
  have HL:=ai h1;clear h1
  go_enter Tryd.func72,Tryd.ntmps72;go_wp2
  go_ret2
  exact⟨.inl ⟨by rw [HV.o];decide,by rw [HV.o];rfl⟩,HB0.o⟩
 by_cases h24:24<q.types.l.length
 ·have HV:=ai (valsE_len (q:=q) (.inr h24))
  have h1': ¬(q.types.l.length:Int) <1:=by omega
  have h24': (24:Int) <q.types.l.length:=by omega
  clear h1 h24
  go_enter Tryd.func72,Tryd.ntmps72;go_wp2
  go_ret2
  exact⟨.inl ⟨by rw [HV.o];decide,by rw [HV.o];rfl⟩,HB0.o⟩
 have HN:=ai (show¬(q.types.l.length=0∨24<q.types.l.length) by omega)
 have h1': ¬(q.types.l.length:Int) <1:=by omega
 have h24': ¬(24:Int) <q.types.l.length:=by omega
 clear h1 h24
 go_enter Tryd.func72,Tryd.ntmps72;go_upto_region 1 with(fail)
 generalize (w.alloc (.cells q.lit 57)) =W at *;have y12:=HBX.o.cell (j:=12) rfl
 have y13:=HBX.o.cell (j:=13) rfl
 go_wp2;go_loopw [4] (fun i wr=>∃k:Nat,i = .int .i64 k∧k≤q.types.l.length∧Hid (∀j (hj:j<q.types.l.length),j<k→isT q.types.l[j] =true)∧Hid (wr=W)) (fun i _=>q.types.l.length - (intOf i).toNat)
 case atStart=>exact⟨0,rfl,Nat.zero_le _,fun j hj h=>absurd h (by omega),rfl⟩
 case round=>
  obtain⟨k,rfl,hk,H0,hw⟩:=hrel;have hw':=hw.o;clear hw;subst hw';by_cases hlt:k<q.types.l.length
  ·have hlti: (k:Int) <q.types.l.length:=by omega
   have hix:=IL.ix HIN.o.ty hlt;have c0:=int_at HIN.o.ty.1 hlt;have hbk:=HIN.o.ty.1.blk hlt;obtain⟨t,ht⟩ : ∃t,q.types.l[k] =t:=⟨_,rfl⟩;have HTK:=ai ht;rw [ht]at c0;clear ht;by_cases t1:t<1
   ·have HV:=ai (valsE_typ HN.o hlt (by rw [HTK.o];exact decide_eq_false (by omega)))
    go_wp2
    go_ret2
    exact⟨.inl ⟨by rw [HV.o];decide,by rw [HV.o];rfl⟩,HB0.o⟩
   ·by_cases t3:3<t
    ·have HV:=ai (valsE_typ HN.o hlt (by rw [HTK.o];exact decide_eq_false (by omega)))
     go_wp2
     go_ret2
     exact⟨.inl ⟨by rw [HV.o];decide,by rw [HV.o];rfl⟩,HB0.o⟩
    ·have HT:=ai (show isT q.types.l[k] =true by rw [HTK.o];exact decide_eq_true (by omega))
     go_wp2;go_roundw
     case rel=>
      refine⟨k+1,by go_num,by omega,fun j hj h=> ?_,ai trivial⟩
      by_cases e:j=k
      ·subst e;exact HT.o
      ·exact H0.o j hj (by omega)
     case measure=>simp [intOf];omega
  ·have hlti: ¬(k:Int) <q.types.l.length:=by omega
   have HT:=ai (show∀j (hj:j<q.types.l.length),isT q.types.l[j] =true from fun j hj=>H0.o j hj (by omega))
   clear H0;go_wp2;obtain⟨W0,hW0⟩ : ∃x,x=wr:=⟨_,rfl⟩;subst hW0;clear y12 y13;go_loopw [5] (fun i wx=>∃k:Nat,i = .int .i64 k∧k≤q.rows.length∧Hid (∀j (hj:j<q.rows.length),j<k→rowE q.types.l q.rows[j].l=0)∧Hid (Below W0.heap.size W0 wx)) (fun i _=>q.rows.length - (intOf i).toNat)
   case atStart=>exact⟨0,rfl,Nat.zero_le _,fun j hj h=>absurd h (by omega),Below.refl _ _⟩
   case round=>
    obtain⟨k,rfl,hk,H0,HB⟩:=hrel;have HINx:=ai (HIN.o.mono HB.o);have HBXx:=ai (HBX.o.below HB.o);have y12:=HBXx.o.cell (j:=12) rfl
    have y13:=HBXx.o.cell (j:=13) rfl
    by_cases hlt:k<q.rows.length
    ·have hlti: (k:Int) <q.rows.length:=by omega
     have hixr:=HINx.o.rr.ix hlt Tryd.underlying54 sz69;have c0:=vl_at HINx.o.rr hlt;have hbk:=HINx.o.rr.blk hlt;obtain⟨r,hr⟩ : ∃r,q.rows[k] =r:=⟨_,rfl⟩;have HRK:=ai hr;have HRI:=ai (show r.In wr from hr▸HINx.o.rs _ (List.getElem_mem hlt))
     rw [hr]at c0;clear hr;by_cases hl:r.l.length=q.types.l.length
     ·have hl': ((r.l.length:Int) != (q.types.l.length:Int)) =false:=by simp [hl]
      have HL:=ai hl;clear hl;go_wp2
      go_quiet (fail)
      go_wp2;obtain⟨W1,hW1⟩ : ∃x,x=wr:=⟨_,rfl⟩;subst hW1;clear y12 y13 hixr c0 hbk;go_loopw [6] (fun i wx=>∃m:Nat,i = .int .i64 m∧m≤q.types.l.length∧Hid (∀j (hj:j<r.l.length) (hj':j<q.types.l.length),j<m→cellB r.l[j] q.types.l[j] =true)∧Hid (Below W1.heap.size W1 wx)) (fun i _=>q.types.l.length - (intOf i).toNat)
      case atStart=>exact⟨0,rfl,Nat.zero_le _,fun j hj hj' h=>absurd h (by omega),below_drewN (Below.refl _ _) _⟩
      case round=>
       obtain⟨m,rfl,hm,HC,HM⟩:=hrel;have HINy:=ai (HINx.o.mono HM.o);have HBXy:=ai (HBXx.o.below HM.o);have y12:=HBXy.o.cell (j:=12) rfl
       have y13:=HBXy.o.cell (j:=13) rfl
       by_cases hmt:m<q.types.l.length
       ·have hmti: (m:Int) <q.types.l.length:=by omega
        have hmr:m<r.l.length:=by have:=HL.o;omega
        have hixr:=HINy.o.rr.ix hlt Tryd.underlying54 sz69;have c0:=vl_at HINy.o.rr hlt;have hbk:=HINy.o.rr.blk hlt;rw [HRK.o]at c0;have hri:=HRI.o.mono HM.o;have hixv:=hri.1.ix hmr Tryd.underlying79 szval;obtain⟨d0,d1,d2⟩:=val_at hri.1 hmr;have hbv:=hri.1.blk hmr;have HWF:=ai (hri.2 _ (List.getElem_mem hmr));obtain⟨v,hv⟩ : ∃v,r.l[m] =v:=⟨_,rfl⟩;have HVK:=ai hv;rw [hv]at d0 d1 d2 HWF;have hixt:=IL.ix HINy.o.ty hmt;have e0:=int_at HINy.o.ty.1 hmt;have hbt:=HINy.o.ty.1.blk hmt;obtain⟨t,ht⟩ : ∃t,q.types.l[m] =t:=⟨_,rfl⟩;have HTK:=ai ht;rw [ht]at e0;clear hv ht hri;have HCB:=ai (show cellB r.l[m] q.types.l[m] = (validV v && ((v.kind == 0) || (v.kind == t))) by rw [HVK.o,HTK.o];rfl)
        go_upto_region 17 with(fail)
        have HBV:=ai (Box.new wr #[.int .i64 v.kind,.int .i64 v.num,.string v.text] 98);have HBA:=ai (belA (w:=wr) (.cells #[.int .i64 v.kind,.int .i64 v.num,.string v.text] 98))
        have HBY:=ai (HBXy.o.below HBA.o);have HTY:=ai (HINy.o.ty.mono HBA.o);generalize wr.alloc (.cells #[.int .i64 v.kind,.int .i64 v.num,.string v.text] 98) =W2 at *;have g0: ∀w',Below W2.heap.size W2 w'→w'.cell? ⟨wr.heap.size,0,none⟩ =some (.int .i64 v.kind):=fun w' h=>(HBV.o.below h).cell (j:=0) rfl
        have g1: ∀w',Below W2.heap.size W2 w'→w'.cell? ⟨wr.heap.size,1,none⟩ =some (.int .i64 v.num):=fun w' h=>(HBV.o.below h).cell (j:=1) rfl
        have g2: ∀w',Below W2.heap.size W2 w'→w'.cell? ⟨wr.heap.size,2,none⟩ =some (.string v.text):=fun w' h=>(HBV.o.below h).cell (j:=2) rfl
        have g3: ∀w',Below W2.heap.size W2 w'→w'.cell? ⟨w.heap.size,12,none⟩ =some (.slice q.types.h.ao q.types.l.length q.types.h.cap):=fun w' h=>(HBY.o.below h).cell (j:=12) rfl
        have g4: ∀w',Below W2.heap.size W2 w'→w'.cell? ⟨q.types.h.b,q.types.h.o+m,none⟩ =some (.int .i64 t):=fun w' h=>by
         have:=int_at (HTY.o.mono h).1 hmt;rw [HTK.o]at this;exact this
        clear y12 y13 c0 d0 d1 d2 e0 hixr hixv hbk hbv;have o0:=g0 W2 (Below.refl _ _);have o1:=g1 W2 (Below.refl _ _);have o2:=g2 W2 (Below.refl _ _);obtain⟨a,hav⟩ : ∃a,validV v=a:=⟨_,rfl⟩;have HAV:=ai hav;clear hav
        cases a
        case false=>
         have HV:=ai (valsE_row HN.o HT.o hlt H0.o (v:=4) (by rw [HRK.o];exact rowE_4 HL.o hmr hmt (by rw [HCB.o,HAV.o];simp [*])) (by decide))
         go_region_law (first
          | (go_simp;go_at_call 97;refine(rval_any v HWF.o _).mono ?_;rintro e x1 ⟨rfl,hb1⟩;rw [HAV.o];have hb2:=bel_drew hb1;have HX:=ai hb2;have p0:=g0 x1 hb2;have p1:=g1 x1 hb2;have p2:=g2 x1 hb2;have p3:=g3 x1 hb2;have p4:=g4 x1 hb2;clear hb1 hb2;go_simp;(first| (refine(‹∀(a:Act) (w:World),wpAny _ _ _ _ _ _ a w→_›) _ _ ?_) | (trace "FAIL K";trace_state;fail));(first| (refine wpAny_take (i:=2) (v:=.bool true) rfl (by kernel_rfl) (by kernel_rfl) (by kernel_rfl) (fun _ _ _ h=>h) (Or.inl ⟨by rfl,fun w=>by go_simp⟩) ?_) | (trace "FAIL 2";trace_state;fail));(first| (refine wpAny_take (i:=3) (v:=.bool true) rfl (by kernel_rfl) (by kernel_rfl) (by kernel_rfl) (fun _ _ _ h=>h) (Or.inl ⟨by rfl,fun w=>by go_simp⟩) ?_) | (trace "FAIL 3";trace_state;fail));(first| (refine wpAny_take (i:=4) (v:=undef) rfl (by kernel_rfl) (by kernel_rfl) (by kernel_rfl) (fun _ _ _ h=>h) (Or.inr ⟨by rfl,rfl⟩) ?_) | (trace "FAIL 4";trace_state;fail));(first| (refine wpAny_take (i:=5) (v:=undef) rfl (by kernel_rfl) (by kernel_rfl) (by kernel_rfl) (fun _ _ _ h=>h) (Or.inr ⟨by rfl,rfl⟩) ?_) | (trace "FAIL 5";trace_state;fail));(first| (refine wpAny_take (i:=6) (v:=undef) rfl (by kernel_rfl) (by kernel_rfl) (by kernel_rfl) (fun _ _ _ h=>h) (Or.inr ⟨by rfl,rfl⟩) ?_) | (trace "FAIL 6";trace_state;fail));(first| (refine wpAny_take (i:=7) (v:=undef) rfl (by kernel_rfl) (by kernel_rfl) (by kernel_rfl) (fun _ _ _ h=>h) (Or.inr ⟨by rfl,rfl⟩) ?_) | (trace "FAIL 7";trace_state;fail));(first| (refine wpAny_take (i:=8) (v:=undef) rfl (by kernel_rfl) (by kernel_rfl) (by kernel_rfl) (fun _ _ _ h=>h) (Or.inr ⟨(by go_simp;try simp [undef]),rfl⟩) ?_) | (trace "FAIL 8";trace_state;fail));(first| (refine wpAny_take (i:=9) (v:=undef) rfl (by kernel_rfl) (by kernel_rfl) (by kernel_rfl) (fun _ _ _ h=>h) (Or.inr ⟨(by go_simp;try simp [undef]),rfl⟩) ?_) | (trace "FAIL 9";trace_state;fail));(first| (refine wpAny_take (i:=10) (v:=undef) rfl (by kernel_rfl) (by kernel_rfl) (by kernel_rfl) (fun _ _ _ h=>h) (Or.inr ⟨(by go_simp;try simp [undef]),rfl⟩) ?_) | (trace "FAIL 10";trace_state;fail));(first| (refine wpAny_take (i:=11) (v:=undef) rfl (by kernel_rfl) (by kernel_rfl) (by kernel_rfl) (fun _ _ _ h=>h) (Or.inr ⟨(by go_simp;try simp [undef]),rfl⟩) ?_) | (trace "FAIL 11";trace_state;fail));(first| (refine wpAny_take (i:=12) (v:=undef) rfl (by kernel_rfl) (by kernel_rfl) (by kernel_rfl) (fun _ _ _ h=>h) (Or.inr ⟨(by go_simp;try simp [undef]),rfl⟩) ?_) | (trace "FAIL 12";trace_state;fail));(first| (refine wpAny_take (i:=13) (v:=undef) rfl (by kernel_rfl) (by kernel_rfl) (by kernel_rfl) (fun _ _ _ h=>h) (Or.inr ⟨(by go_simp;try simp [undef]),rfl⟩) ?_) | (trace "FAIL 13";trace_state;fail));(first| (refine wpAny_take (i:=14) (v:=undef) rfl (by kernel_rfl) (by kernel_rfl) (by kernel_rfl) (fun _ _ _ h=>h) (Or.inr ⟨(by go_simp;try simp [undef]),rfl⟩) ?_) | (trace "FAIL 14";trace_state;fail));(first| (refine wpAny_take (i:=15) (v:=undef) rfl (by kernel_rfl) (by kernel_rfl) (by kernel_rfl) (fun _ _ _ h=>h) (Or.inr ⟨(by go_simp;try simp [undef]),rfl⟩) ?_) | (trace "FAIL 15";trace_state;fail));(first| (refine wpAny_take (i:=16) (v:=undef) rfl (by kernel_rfl) (by kernel_rfl) (by kernel_rfl) (fun _ _ _ h=>h) (Or.inr ⟨(by go_simp;try simp [undef]),rfl⟩) ?_) | (trace "FAIL 16";trace_state;fail))))
         clear g0 g1 g2 g3 g4 hixt hbt;go_wp2
         go_ret2
         exact⟨.inl ⟨by rw [HV.o];decide,by rw [HV.o];rfl⟩,HB0.o.trans ((bT (bT (bT HB.o HM.o) HBA.o) HX.o).mono HB0.o.size)⟩
        case true=>
         by_cases k0:v.kind=0
         ·have k0': (v.kind != 0) =false:=by simp [k0]
          have HG:=ai (show cellB r.l[m] q.types.l[m] =true by rw [HCB.o,HAV.o];simp [*])
          clear k0
          go_region_law (first
           | (go_simp;go_at_call 97;refine(rval_any v HWF.o _).mono ?_;rintro e x1 ⟨rfl,hb1⟩;rw [HAV.o];have hb2:=bel_drew hb1;have HX:=ai hb2;have p0:=g0 x1 hb2;have p1:=g1 x1 hb2;have p2:=g2 x1 hb2;have p3:=g3 x1 hb2;have p4:=g4 x1 hb2;clear hb1 hb2;go_simp;refine(‹∀(a:Act) (w:World),wpAny _ _ _ _ _ _ a w→_›) _ _ ?_;refine wpAny_take (i:=2) (v:=.bool false) rfl (by kernel_rfl) (by kernel_rfl) (by kernel_rfl) (fun _ _ _ h=>h) (Or.inl ⟨by rfl,fun w=>by go_simp⟩) ?_;refine wpAny_take (i:=3) (v:=.bool false) rfl (by kernel_rfl) (by kernel_rfl) (by kernel_rfl) (fun _ _ _ h=>h) (Or.inl ⟨by rfl,fun w=>by go_simp⟩) ?_;refine wpAny_take (i:=4) (v:=.pointer (some ⟨wr.heap.size,0,none⟩)) rfl (by kernel_rfl) (by kernel_rfl) (by kernel_rfl) (fun _ _ _ h=>h) (Or.inl ⟨by rfl,fun w=>by go_simp⟩) ?_;refine wpAny_ready (rs:= [5]) (by kernel_rfl) (by simp) ?_;refine AllReady.cons rfl (fun K hK=> ?_) AllReady.nil;go_simp;refine hK _ _ ?_;refine wpAny_take (i:=6) (v:=.bool false) rfl (by kernel_rfl) (by kernel_rfl) (by kernel_rfl) (fun _ _ _ h=>h) (Or.inl ⟨by rfl,fun w=>by go_simp⟩) ?_;refine wpAny_take (i:=7) (v:=.bool false) rfl (by kernel_rfl) (by kernel_rfl) (by kernel_rfl) (fun _ _ _ h=>h) (Or.inl ⟨by rfl,fun w=>by go_simp⟩) ?_;refine wpAny_take (i:=8) (v:=undef) rfl (by kernel_rfl) (by kernel_rfl) (by kernel_rfl) (fun _ _ _ h=>h) (Or.inr ⟨(by go_simp;try simp [undef]),rfl⟩) ?_;refine wpAny_take (i:=9) (v:=undef) rfl (by kernel_rfl) (by kernel_rfl) (by kernel_rfl) (fun _ _ _ h=>h) (Or.inr ⟨(by go_simp;try simp [undef]),rfl⟩) ?_;refine wpAny_take (i:=10) (v:=undef) rfl (by kernel_rfl) (by kernel_rfl) (by kernel_rfl) (fun _ _ _ h=>h) (Or.inr ⟨(by go_simp;try simp [undef]),rfl⟩) ?_;refine wpAny_take (i:=11) (v:=undef) rfl (by kernel_rfl) (by kernel_rfl) (by kernel_rfl) (fun _ _ _ h=>h) (Or.inr ⟨(by go_simp;try simp [undef]),rfl⟩) ?_;refine wpAny_take (i:=12) (v:=undef) rfl (by kernel_rfl) (by kernel_rfl) (by kernel_rfl) (fun _ _ _ h=>h) (Or.inr ⟨(by go_simp;try simp [undef]),rfl⟩) ?_;refine wpAny_take (i:=13) (v:=undef) rfl (by kernel_rfl) (by kernel_rfl) (by kernel_rfl) (fun _ _ _ h=>h) (Or.inr ⟨(by go_simp;try simp [undef]),rfl⟩) ?_;refine wpAny_take (i:=14) (v:=undef) rfl (by kernel_rfl) (by kernel_rfl) (by kernel_rfl) (fun _ _ _ h=>h) (Or.inr ⟨(by go_simp;try simp [undef]),rfl⟩) ?_;refine wpAny_take (i:=15) (v:=undef) rfl (by kernel_rfl) (by kernel_rfl) (by kernel_rfl) (fun _ _ _ h=>h) (Or.inr ⟨(by go_simp;try simp [undef]),rfl⟩) ?_))
          clear g0 g1 g2 g3 g4 hixt hbt
          all_goals
           go_wp2;go_roundw
          all_goals first
           | (case rel=>
             refine⟨m+1,by go_num,by omega,fun j hj hj' h=> ?_,bT (bT HM.o HBA.o) HX.o⟩
             by_cases e:j=m
             ·subst e;exact HG.o
             ·exact HC.o j hj hj' (by omega))
           | (case measure=>simp [intOf];omega)
         ·have k0': (v.kind != 0) =true:=bne_iff_ne.2 k0
          by_cases kt:v.kind=t
          ·have kt': (v.kind != t) =false:=by simp [kt]
           have HG:=ai (show cellB r.l[m] q.types.l[m] =true by rw [HCB.o,HAV.o];simp [kt])
           clear k0 kt
           go_region_law (first
            | (go_simp;go_at_call 97;refine(rval_any v HWF.o _).mono ?_;rintro e x1 ⟨rfl,hb1⟩;rw [HAV.o];have hb2:=bel_drew hb1;have HX:=ai hb2;have p0:=g0 x1 hb2;have p1:=g1 x1 hb2;have p2:=g2 x1 hb2;have p3:=g3 x1 hb2;have p4:=g4 x1 hb2;clear hb1 hb2))
           clear g0 g1 g2 g3 g4 hixt hbt
           all_goals
            go_wp2;go_roundw
           all_goals first
            | (case rel=>
              refine⟨m+1,by go_num,by omega,fun j hj hj' h=> ?_,bT (bT HM.o HBA.o) HX.o⟩
              by_cases e:j=m
              ·subst e;exact HG.o
              ·exact HC.o j hj hj' (by omega))
            | (case measure=>simp [intOf];omega)
          ·have kt': (v.kind != t) =true:=bne_iff_ne.2 kt
           have HV:=ai (valsE_row HN.o HT.o hlt H0.o (v:=4) (by rw [HRK.o];exact rowE_4 HL.o hmr hmt (by rw [HCB.o,HAV.o];simp [k0,kt])) (by decide))
           clear k0 kt
           go_region_law (first
            | (go_simp;go_at_call 97;refine(rval_any v HWF.o _).mono ?_;rintro e x1 ⟨rfl,hb1⟩;rw [HAV.o];have hb2:=bel_drew hb1;have HX:=ai hb2;have p0:=g0 x1 hb2;have p1:=g1 x1 hb2;have p2:=g2 x1 hb2;have p3:=g3 x1 hb2;have p4:=g4 x1 hb2;clear hb1 hb2))
           clear g0 g1 g2 g3 g4 hixt hbt
           all_goals
            go_wp2
            go_ret2
            exact⟨.inl ⟨by rw [HV.o];decide,by rw [HV.o];rfl⟩,HB0.o.trans ((bT (bT (bT HB.o HM.o) HBA.o) HX.o).mono HB0.o.size)⟩
       ·have hmti: ¬(m:Int) <q.types.l.length:=by omega
        have HRE:=ai (show rowE q.types.l q.rows[k].l=0 by rw [HRK.o];exact rowE_0 HL.o (fun j hj hj'=>HC.o j hj hj' (by omega)))
        go_wp2;go_roundw
        case rel=>
         refine⟨k+1,by go_num,by omega,fun j hj h=> ?_,bT HB.o HM.o⟩
         by_cases e:j=k
         ·subst e;exact HRE.o
         ·exact H0.o j hj (by omega)
        case measure=>simp [intOf];omega
     ·have hl': ((r.l.length:Int) != (q.types.l.length:Int)) =true:=by simp;omega
      have HV:=ai (valsE_row HN.o HT.o hlt H0.o (v:=9) (by rw [HRK.o];exact rowE_9 hl) (by decide))
      clear hl;go_wp2
      go_quiet (fail)
      go_wp2
      go_ret2
      exact⟨.inl ⟨by rw [HV.o];decide,by rw [HV.o];rfl⟩,HB0.o.trans ((below_drewN HB.o _).mono HB0.o.size)⟩
    ·have hlti: ¬(k:Int) <q.rows.length:=by omega
     have HV:=ai (valsE_ok HN.o HT.o (fun j hj=>H0.o j hj (by omega)))
     go_wp2
     go_ret2
     exact⟨.inr ⟨HV.o,rfl⟩,HB0.o.trans (HB.o.mono HB0.o.size)⟩
end Go.Proofs.YtogalchclmmfgaaDoor
namespace Go.Proofs.YtogalchclmmfgaaDoor
open Go.RowKit
theorem uT_not (q:Qu) : (!uT q) = (q.table.toList == []):=by unfold uT;cases q.table.toList<;>rfl
theorem kd_not (q:Qu) : (!(q.kind != 0)) = (q.kind == 0):=by simp [bne]
theorem ln_not (n:Nat) : (!decide (0<n)) =decide (n=0):=by cases n<;>simp
theorem clean_1 (q:Qu) :cleanB q ⟨#[116,97,98,108,101]⟩ = ((q.kind == 0) && (!q.all) && (eqb q.cond.er noEx.er) && decide (q.exprs.length=0) && decide (q.aggs.length=0) && decide (q.types.l.length=0) && decide (q.rows.length=0)):=by
 have htb:inUses ⟨#[116,97,98,108,101]⟩ [116,97,98,108,101] =true:=by unfold inUses;decide
 have hkb:inUses ⟨#[116,97,98,108,101]⟩ [107,105,110,100] =false:=by unfold inUses;decide
 have hab:inUses ⟨#[116,97,98,108,101]⟩ [97,108,108] =false:=by unfold inUses;decide
 have hzb:inUses ⟨#[116,97,98,108,101]⟩ [99,111,110,100] =false:=by unfold inUses;decide
 have hxb:inUses ⟨#[116,97,98,108,101]⟩ [101,120,112,114,115] =false:=by unfold inUses;decide
 have hgb:inUses ⟨#[116,97,98,108,101]⟩ [97,103,103,115] =false:=by unfold inUses;decide
 have hyb:inUses ⟨#[116,97,98,108,101]⟩ [116,121,112,101,115] =false:=by unfold inUses;decide
 have hrb:inUses ⟨#[116,97,98,108,101]⟩ [114,111,119,115] =false:=by unfold inUses;decide
 unfold cleanB flds fnames
 simp only [List.map_cons,List.map_nil,List.all_cons,List.all_nil,used,htb,hkb,hab,hzb,hxb,hgb,hyb,hrb,Bool.or_true,Bool.or_false,Bool.true_and,Bool.and_true,uT_not,kd_not,ln_not,Bool.not_not,Bool.and_assoc]
theorem clean_2 (q:Qu) :cleanB q ⟨#[116,121,112,101,115,32,114,111,119,115]⟩ = ((q.table.toList == []) && (q.kind == 0) && (!q.all) && (eqb q.cond.er noEx.er) && decide (q.exprs.length=0) && decide (q.aggs.length=0)):=by
 have htb:inUses ⟨#[116,121,112,101,115,32,114,111,119,115]⟩ [116,97,98,108,101] =false:=by unfold inUses;decide
 have hkb:inUses ⟨#[116,121,112,101,115,32,114,111,119,115]⟩ [107,105,110,100] =false:=by unfold inUses;decide
 have hab:inUses ⟨#[116,121,112,101,115,32,114,111,119,115]⟩ [97,108,108] =false:=by unfold inUses;decide
 have hzb:inUses ⟨#[116,121,112,101,115,32,114,111,119,115]⟩ [99,111,110,100] =false:=by unfold inUses;decide
 have hxb:inUses ⟨#[116,121,112,101,115,32,114,111,119,115]⟩ [101,120,112,114,115] =false:=by unfold inUses;decide
 have hgb:inUses ⟨#[116,121,112,101,115,32,114,111,119,115]⟩ [97,103,103,115] =false:=by unfold inUses;decide
 have hyb:inUses ⟨#[116,121,112,101,115,32,114,111,119,115]⟩ [116,121,112,101,115] =true:=by unfold inUses;decide
 have hrb:inUses ⟨#[116,121,112,101,115,32,114,111,119,115]⟩ [114,111,119,115] =true:=by unfold inUses;decide
 unfold cleanB flds fnames
 simp only [List.map_cons,List.map_nil,List.all_cons,List.all_nil,used,htb,hkb,hab,hzb,hxb,hgb,hyb,hrb,Bool.or_true,Bool.or_false,Bool.and_true,uT_not,kd_not,ln_not,Bool.not_not,Bool.and_assoc]
theorem clean_3 (q:Qu) :cleanB q ⟨#[99,111,110,100]⟩ = ((q.table.toList == []) && (q.kind == 0) && (!q.all) && decide (q.exprs.length=0) && decide (q.aggs.length=0) && decide (q.types.l.length=0) && decide (q.rows.length=0)):=by
 have htb:inUses ⟨#[99,111,110,100]⟩ [116,97,98,108,101] =false:=by unfold inUses;decide
 have hkb:inUses ⟨#[99,111,110,100]⟩ [107,105,110,100] =false:=by unfold inUses;decide
 have hab:inUses ⟨#[99,111,110,100]⟩ [97,108,108] =false:=by unfold inUses;decide
 have hzb:inUses ⟨#[99,111,110,100]⟩ [99,111,110,100] =true:=by unfold inUses;decide
 have hxb:inUses ⟨#[99,111,110,100]⟩ [101,120,112,114,115] =false:=by unfold inUses;decide
 have hgb:inUses ⟨#[99,111,110,100]⟩ [97,103,103,115] =false:=by unfold inUses;decide
 have hyb:inUses ⟨#[99,111,110,100]⟩ [116,121,112,101,115] =false:=by unfold inUses;decide
 have hrb:inUses ⟨#[99,111,110,100]⟩ [114,111,119,115] =false:=by unfold inUses;decide
 unfold cleanB flds fnames
 simp only [List.map_cons,List.map_nil,List.all_cons,List.all_nil,used,htb,hkb,hab,hzb,hxb,hgb,hyb,hrb,Bool.or_true,Bool.or_false,Bool.true_and,Bool.and_true,uT_not,kd_not,ln_not,Bool.not_not,Bool.and_assoc]
theorem clean_4 (q:Qu) :cleanB q ⟨#[101,120,112,114,115]⟩ = ((q.table.toList == []) && (q.kind == 0) && (!q.all) && (eqb q.cond.er noEx.er) && decide (q.aggs.length=0) && decide (q.types.l.length=0) && decide (q.rows.length=0)):=by
 have htb:inUses ⟨#[101,120,112,114,115]⟩ [116,97,98,108,101] =false:=by unfold inUses;decide
 have hkb:inUses ⟨#[101,120,112,114,115]⟩ [107,105,110,100] =false:=by unfold inUses;decide
 have hab:inUses ⟨#[101,120,112,114,115]⟩ [97,108,108] =false:=by unfold inUses;decide
 have hzb:inUses ⟨#[101,120,112,114,115]⟩ [99,111,110,100] =false:=by unfold inUses;decide
 have hxb:inUses ⟨#[101,120,112,114,115]⟩ [101,120,112,114,115] =true:=by unfold inUses;decide
 have hgb:inUses ⟨#[101,120,112,114,115]⟩ [97,103,103,115] =false:=by unfold inUses;decide
 have hyb:inUses ⟨#[101,120,112,114,115]⟩ [116,121,112,101,115] =false:=by unfold inUses;decide
 have hrb:inUses ⟨#[101,120,112,114,115]⟩ [114,111,119,115] =false:=by unfold inUses;decide
 unfold cleanB flds fnames
 simp only [List.map_cons,List.map_nil,List.all_cons,List.all_nil,used,htb,hkb,hab,hzb,hxb,hgb,hyb,hrb,Bool.or_true,Bool.or_false,Bool.true_and,Bool.and_true,uT_not,kd_not,ln_not,Bool.not_not,Bool.and_assoc]
theorem clean_5 (q:Qu) :cleanB q ⟨#[107,105,110,100,32,99,111,110,100]⟩ = ((q.table.toList == []) && (!q.all) && decide (q.exprs.length=0) && decide (q.aggs.length=0) && decide (q.types.l.length=0) && decide (q.rows.length=0)):=by
 have htb:inUses ⟨#[107,105,110,100,32,99,111,110,100]⟩ [116,97,98,108,101] =false:=by unfold inUses;decide
 have hkb:inUses ⟨#[107,105,110,100,32,99,111,110,100]⟩ [107,105,110,100] =true:=by unfold inUses;decide
 have hab:inUses ⟨#[107,105,110,100,32,99,111,110,100]⟩ [97,108,108] =false:=by unfold inUses;decide
 have hzb:inUses ⟨#[107,105,110,100,32,99,111,110,100]⟩ [99,111,110,100] =true:=by unfold inUses;decide
 have hxb:inUses ⟨#[107,105,110,100,32,99,111,110,100]⟩ [101,120,112,114,115] =false:=by unfold inUses;decide
 have hgb:inUses ⟨#[107,105,110,100,32,99,111,110,100]⟩ [97,103,103,115] =false:=by unfold inUses;decide
 have hyb:inUses ⟨#[107,105,110,100,32,99,111,110,100]⟩ [116,121,112,101,115] =false:=by unfold inUses;decide
 have hrb:inUses ⟨#[107,105,110,100,32,99,111,110,100]⟩ [114,111,119,115] =false:=by unfold inUses;decide
 unfold cleanB flds fnames
 simp only [List.map_cons,List.map_nil,List.all_cons,List.all_nil,used,htb,hkb,hab,hzb,hxb,hgb,hyb,hrb,Bool.or_true,Bool.or_false,Bool.true_and,Bool.and_true,uT_not,kd_not,ln_not,Bool.not_not,Bool.and_assoc]
theorem clean_6 (q:Qu) :cleanB q ⟨#[97,108,108]⟩ = ((q.table.toList == []) && (q.kind == 0) && (eqb q.cond.er noEx.er) && decide (q.exprs.length=0) && decide (q.aggs.length=0) && decide (q.types.l.length=0) && decide (q.rows.length=0)):=by
 have htb:inUses ⟨#[97,108,108]⟩ [116,97,98,108,101] =false:=by unfold inUses;decide
 have hkb:inUses ⟨#[97,108,108]⟩ [107,105,110,100] =false:=by unfold inUses;decide
 have hab:inUses ⟨#[97,108,108]⟩ [97,108,108] =true:=by unfold inUses;decide
 have hzb:inUses ⟨#[97,108,108]⟩ [99,111,110,100] =false:=by unfold inUses;decide
 have hxb:inUses ⟨#[97,108,108]⟩ [101,120,112,114,115] =false:=by unfold inUses;decide
 have hgb:inUses ⟨#[97,108,108]⟩ [97,103,103,115] =false:=by unfold inUses;decide
 have hyb:inUses ⟨#[97,108,108]⟩ [116,121,112,101,115] =false:=by unfold inUses;decide
 have hrb:inUses ⟨#[97,108,108]⟩ [114,111,119,115] =false:=by unfold inUses;decide
 unfold cleanB flds fnames
 simp only [List.map_cons,List.map_nil,List.all_cons,List.all_nil,used,htb,hkb,hab,hzb,hxb,hgb,hyb,hrb,Bool.or_true,Bool.or_false,Bool.true_and,Bool.and_true,uT_not,kd_not,ln_not,Bool.not_not,Bool.and_assoc]
theorem clean_7 (q:Qu) :cleanB q ⟨#[97,108,108]⟩ = ((q.table.toList == []) && (q.kind == 0) && (eqb q.cond.er noEx.er) && decide (q.exprs.length=0) && decide (q.aggs.length=0) && decide (q.types.l.length=0) && decide (q.rows.length=0)):=by
 have htb:inUses ⟨#[97,108,108]⟩ [116,97,98,108,101] =false:=by unfold inUses;decide
 have hkb:inUses ⟨#[97,108,108]⟩ [107,105,110,100] =false:=by unfold inUses;decide
 have hab:inUses ⟨#[97,108,108]⟩ [97,108,108] =true:=by unfold inUses;decide
 have hzb:inUses ⟨#[97,108,108]⟩ [99,111,110,100] =false:=by unfold inUses;decide
 have hxb:inUses ⟨#[97,108,108]⟩ [101,120,112,114,115] =false:=by unfold inUses;decide
 have hgb:inUses ⟨#[97,108,108]⟩ [97,103,103,115] =false:=by unfold inUses;decide
 have hyb:inUses ⟨#[97,108,108]⟩ [116,121,112,101,115] =false:=by unfold inUses;decide
 have hrb:inUses ⟨#[97,108,108]⟩ [114,111,119,115] =false:=by unfold inUses;decide
 unfold cleanB flds fnames
 simp only [List.map_cons,List.map_nil,List.all_cons,List.all_nil,used,htb,hkb,hab,hzb,hxb,hgb,hyb,hrb,Bool.or_true,Bool.or_false,Bool.true_and,Bool.and_true,uT_not,kd_not,ln_not,Bool.not_not,Bool.and_assoc]
theorem clean_8 (q:Qu) :cleanB q ⟨#[97,108,108]⟩ = ((q.table.toList == []) && (q.kind == 0) && (eqb q.cond.er noEx.er) && decide (q.exprs.length=0) && decide (q.aggs.length=0) && decide (q.types.l.length=0) && decide (q.rows.length=0)):=by
 have htb:inUses ⟨#[97,108,108]⟩ [116,97,98,108,101] =false:=by unfold inUses;decide
 have hkb:inUses ⟨#[97,108,108]⟩ [107,105,110,100] =false:=by unfold inUses;decide
 have hab:inUses ⟨#[97,108,108]⟩ [97,108,108] =true:=by unfold inUses;decide
 have hzb:inUses ⟨#[97,108,108]⟩ [99,111,110,100] =false:=by unfold inUses;decide
 have hxb:inUses ⟨#[97,108,108]⟩ [101,120,112,114,115] =false:=by unfold inUses;decide
 have hgb:inUses ⟨#[97,108,108]⟩ [97,103,103,115] =false:=by unfold inUses;decide
 have hyb:inUses ⟨#[97,108,108]⟩ [116,121,112,101,115] =false:=by unfold inUses;decide
 have hrb:inUses ⟨#[97,108,108]⟩ [114,111,119,115] =false:=by unfold inUses;decide
 unfold cleanB flds fnames
 simp only [List.map_cons,List.map_nil,List.all_cons,List.all_nil,used,htb,hkb,hab,hzb,hxb,hgb,hyb,hrb,Bool.or_true,Bool.or_false,Bool.true_and,Bool.and_true,uT_not,kd_not,ln_not,Bool.not_not,Bool.and_assoc]
theorem clean_9 (q:Qu) :cleanB q ⟨#[]⟩ = ((q.table.toList == []) && (q.kind == 0) && (!q.all) && (eqb q.cond.er noEx.er) && decide (q.exprs.length=0) && decide (q.aggs.length=0) && decide (q.types.l.length=0) && decide (q.rows.length=0)):=by
 have htb:inUses ⟨#[]⟩ [116,97,98,108,101] =false:=by unfold inUses;decide
 have hkb:inUses ⟨#[]⟩ [107,105,110,100] =false:=by unfold inUses;decide
 have hab:inUses ⟨#[]⟩ [97,108,108] =false:=by unfold inUses;decide
 have hzb:inUses ⟨#[]⟩ [99,111,110,100] =false:=by unfold inUses;decide
 have hxb:inUses ⟨#[]⟩ [101,120,112,114,115] =false:=by unfold inUses;decide
 have hgb:inUses ⟨#[]⟩ [97,103,103,115] =false:=by unfold inUses;decide
 have hyb:inUses ⟨#[]⟩ [116,121,112,101,115] =false:=by unfold inUses;decide
 have hrb:inUses ⟨#[]⟩ [114,111,119,115] =false:=by unfold inUses;decide
 unfold cleanB flds fnames
 simp only [List.map_cons,List.map_nil,List.all_cons,List.all_nil,used,htb,hkb,hab,hzb,hxb,hgb,hyb,hrb,Bool.or_false,Bool.and_true,uT_not,kd_not,ln_not,Bool.not_not,Bool.and_assoc]
theorem clean_10 (q:Qu) :cleanB q ⟨#[101,120,112,114,115,32,97,103,103,115]⟩ = ((q.table.toList == []) && (q.kind == 0) && (!q.all) && (eqb q.cond.er noEx.er) && decide (q.types.l.length=0) && decide (q.rows.length=0)):=by
 have htb:inUses ⟨#[101,120,112,114,115,32,97,103,103,115]⟩ [116,97,98,108,101] =false:=by unfold inUses;decide
 have hkb:inUses ⟨#[101,120,112,114,115,32,97,103,103,115]⟩ [107,105,110,100] =false:=by unfold inUses;decide
 have hab:inUses ⟨#[101,120,112,114,115,32,97,103,103,115]⟩ [97,108,108] =false:=by unfold inUses;decide
 have hzb:inUses ⟨#[101,120,112,114,115,32,97,103,103,115]⟩ [99,111,110,100] =false:=by unfold inUses;decide
 have hxb:inUses ⟨#[101,120,112,114,115,32,97,103,103,115]⟩ [101,120,112,114,115] =true:=by unfold inUses;decide
 have hgb:inUses ⟨#[101,120,112,114,115,32,97,103,103,115]⟩ [97,103,103,115] =true:=by unfold inUses;decide
 have hyb:inUses ⟨#[101,120,112,114,115,32,97,103,103,115]⟩ [116,121,112,101,115] =false:=by unfold inUses;decide
 have hrb:inUses ⟨#[101,120,112,114,115,32,97,103,103,115]⟩ [114,111,119,115] =false:=by unfold inUses;decide
 unfold cleanB flds fnames
 simp only [List.map_cons,List.map_nil,List.all_cons,List.all_nil,used,htb,hkb,hab,hzb,hxb,hgb,hyb,hrb,Bool.or_true,Bool.or_false,Bool.true_and,Bool.and_true,uT_not,kd_not,ln_not,Bool.not_not,Bool.and_assoc]
end Go.Proofs.YtogalchclmmfgaaDoor

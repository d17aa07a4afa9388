/- A part of the proof of AlgebraMade. -/
import Derived.Test.YtogalchclmmfgaaDoorP20
import Derived.Test.YtogalchclmmfgaaDoorP23
import Derived.Test.YtogalchclmmfgaaDoorP22
set_option maxRecDepth 100000
set_option maxHeartbeats 16000000
namespace Go.Proofs.YtogalchclmmfgaaDoor
open Go.RowKit
inductive AK (k:Int) :Prop where
 | lo (h:k<1)
 | hi (h1: ¬k<1) (h:6<k)
 | rows (h:k=1)
 | low (h1: ¬k<1) (h2: ¬6<k) (h3: (k == 1) =false) (h4: (k == 4) =false) (h5: (k == 5) =false) (h6: (k == 6) =false)
 | sum (h:k=4)
 | min (h:k=5)
 | max (h:k=6)
theorem AK.any (k:Int) :AK k:=by
 by_cases h1:k<1
 ·exact .lo h1
 by_cases h2:6<k
 ·exact .hi h1 h2
 by_cases h3:k=1
 ·exact .rows h3
 by_cases h4:k=4
 ·exact .sum h4
 by_cases h5:k=5
 ·exact .min h5
 by_cases h6:k=6
 ·exact .max h6
 exact .low h1 h2 (beq_eq_false_iff_ne.2 h3) (beq_eq_false_iff_ne.2 h4) (beq_eq_false_iff_ne.2 h5) (beq_eq_false_iff_ne.2 h6)
theorem at_bad {ts:List Int} {a:Agg} (h:a.fn<1∨6<a.fn) :aggTy ts a= (1,0):=by
 unfold aggTy
 rw [if_pos (by rcases h with h|h;exact .inl h;exact .inr (.inl h))]
theorem at_rowsN {ts:List Int} {a:Agg} (h:a.fn=1) (h2:eqb a.arg.er noEx.er=false) :aggTy ts a= (1,0):=by
 unfold aggTy
 rw [if_pos (.inr (.inr ⟨h,h2⟩))]
theorem at_rowsY {ts:List Int} {a:Agg} (h:a.fn=1) (h2:eqb a.arg.er noEx.er=true) :aggTy ts a= (0,1):=by
 unfold aggTy
 rw [if_neg (by rw [h,h2];simp),if_pos h]
theorem at_err {ts:List Int} {a:Agg} (h1: ¬a.fn<1) (h2: ¬6<a.fn) (h3:a.fn≠1) {x:Int} (hx: (a.arg.typ2 ts).2=x) (h0:x≠0) :aggTy ts a= (x,0):=by
 unfold aggTy
 rw [if_neg (by simp [h1,h2,h3]),if_neg h3,hx,if_pos h0]
theorem at_ok {ts:List Int} {a:Agg} (h1: ¬a.fn<1) (h2: ¬6<a.fn) (h3:a.fn≠1) (hx: (a.arg.typ2 ts).2=0) :aggTy ts a=if a.fn=5∨a.fn=6 then (0,(a.arg.typ2 ts).1) else if a.fn=4∧(a.arg.typ2 ts).1≠1 then (4,0) else (0,1):=by
 unfold aggTy
 rw [if_neg (by simp [h1,h2,h3]),if_neg h3,hx,if_neg (by simp)]
theorem at_64 (ts:List Int) (a:Agg) :int64 (aggTy ts a).2:=by
 have hz:int64 0:=by constructor<;>decide
 have h1:int64 1:=by constructor<;>decide
 have ht:=typ2_64 ts a.arg
 unfold aggTy
 split
 ·exact hz
 split
 ·exact h1
 split
 ·exact hz
 split
 ·exact ht
 split
 ·exact hz
 ·exact h1
theorem aggsE_at {ts:List Int} {l:List Agg} {k:Nat} (hk:k<l.length) (h0: ∀j (hj:j<l.length),j<k→(aggTy ts l[j]).1=0) {x:Int} (hx: (aggTy ts l[k]).1=x) (hne:x≠0) :aggsE ts l=x:=by
 unfold aggsE
 have hl:k< (l.map fun e=>(aggTy ts e).1).length:=by simpa using hk
 have:=firstE_at hl (fun j hj h=>by rw [List.getElem_map];exact h0 j (by simpa using hj) h) (by rw [List.getElem_map,hx];exact hne) []
 rw [List.append_nil,List.getElem_map,hx]at this;exact this
theorem aggsE_all {ts:List Int} {l:List Agg} (h0: ∀j (hj:j<l.length),(aggTy ts l[j]).1=0) :aggsE ts l=0:=by
 unfold aggsE
 have:=firstE_app0 (a:=l.map fun e=>(aggTy ts e).1) [] (fun e he=>by
  obtain⟨j,hj,rfl⟩:=List.getElem_of_mem he;rw [List.getElem_map];exact h0 j (by simpa using hj))
 rw [List.append_nil]at this;rw [this];rfl
noncomputable abbrev atc (ts:List Int) (a:Agg) :List Value:= [.int .i64 (aggTy ts a).2]
theorem atc_icells (ts:List Int) (l:List Agg) :l.flatMap (atc ts) = (aggsT ts l).flatMap icells:=by
 induction l with
 | nil=>rfl
 | cons x l ih=>simp [aggsT,List.flatMap_cons]at *;exact ih
theorem aggsT_64 (ts:List Int) (l:List Agg) : ∀n∈aggsT ts l,int64 n:=fun n hn=>by
 obtain⟨e,_,rfl⟩:=List.mem_map.1 hn;exact at_64 ts e
theorem own_snoc2 {w:World} {base:Nat} {e:TypeId} {v:Value} {m k:Nat} {pre:List Value} {ts:List Int} {xs:List Agg} (hk:k<xs.length) {t:Int} (ht: (aggTy ts xs[k]).2=t) (h:w.ownsRow base e 1 v (m+k+1) ((pre ++ (xs.take k).flatMap (atc ts)) ++ [.int .i64 t])) :
  w.ownsRow base e 1 v (m+ (k+1)) (pre ++ (xs.take (k+1)).flatMap (atc ts)):=by
 have e : [xs[k]].flatMap (atc ts) = [.int .i64 t]:=by
  show [Value.int .i64 (aggTy ts xs[k]).2] =_
  rw [ht]
 rw [List.take_succ_eq_append_getElem hk,List.flatMap_append,e,←List.append_assoc,←Nat.add_assoc];exact h
theorem groupTy_9 {ts:List Int} {q:Qu} (h:q.exprs.length+q.aggs.length<1∨24<q.exprs.length+q.aggs.length) :groupTy ts q= (9,[]):=by unfold groupTy;rw [if_pos h]
theorem groupTy_c {ts:List Int} {q:Qu} (h: ¬(q.exprs.length+q.aggs.length<1∨24<q.exprs.length+q.aggs.length)) {x:Int} (hx:colsE ts q.exprs=x) (h0:x≠0) :groupTy ts q= (x,[]):=by unfold groupTy;rw [if_neg h,hx,if_pos h0]
theorem groupTy_a {ts:List Int} {q:Qu} (h: ¬(q.exprs.length+q.aggs.length<1∨24<q.exprs.length+q.aggs.length)) (hx:colsE ts q.exprs=0) {y:Int} (hy:aggsE ts q.aggs=y) (h0:y≠0) :groupTy ts q= (y,[]):=by unfold groupTy;rw [if_neg h,hx,if_neg (by simp),hy,if_pos h0]
theorem groupTy_y {ts:List Int} {q:Qu} (h: ¬(q.exprs.length+q.aggs.length<1∨24<q.exprs.length+q.aggs.length)) (hx:colsE ts q.exprs=0) (hy:aggsE ts q.aggs=0) :groupTy ts q= (0,colsT ts q.exprs ++ aggsT ts q.aggs):=by unfold groupTy;rw [if_neg h,hx,if_neg (by simp),hy,if_neg (by simp)]
theorem ccols_no (h:Hd) (xs:List Ex) (ts:IL) (w:World) (hts:ts.In w) (hrow:Row w 6 Ex.cells h xs) (hin: ∀e∈xs,e.In w) (hf:OpsAt w) (hsz: ∀e∈xs,e.size≤1000000) (hlen:xs.length≤1000000) (hne:colsE ts.l xs≠0) :
  Calls Tryd.prog 65 #[.slice ts.h.ao ts.l.length ts.h.cap,.slice h.ao xs.length h.cap] w fun r w'=>r = .returned (.tuple #[.slice none 0 0,.int .i64 (colsE ts.l xs)])∧Below w.heap.size w w':=
 (ccols_any h xs ts w hts hrow hin hf hsz hlen).mono fun r w' ⟨hr,hb⟩=>⟨by
  rcases hr with h|h
  ·exact h.2
  ·exact absurd h.1 hne,hb⟩
theorem ccols_yes (h:Hd) (xs:List Ex) (ts:IL) (w:World) (hts:ts.In w) (hrow:Row w 6 Ex.cells h xs) (hin: ∀e∈xs,e.In w) (hf:OpsAt w) (hsz: ∀e∈xs,e.size≤1000000) (hlen:xs.length≤1000000) (h0:colsE ts.l xs=0) :
  Calls Tryd.prog 65 #[.slice ts.h.ao ts.l.length ts.h.cap,.slice h.ao xs.length h.cap] w fun r w'=>(∃o:IL,r = .returned (.tuple #[.slice o.h.ao o.l.length o.h.cap,.int .i64 0])∧o.l=colsT ts.l xs∧o.In w'∧OwnIL w.heap.size w' o)∧Below w.heap.size w w':=
 (ccols_any h xs ts w hts hrow hin hf hsz hlen).mono fun r w' ⟨hr,hb⟩=>⟨by
  rcases hr with h|h
  ·exact absurd h0 h.1
  ·exact h.2,hb⟩
theorem rcols_no (h:Hd) (xs:List Ex) (ts:IL) (w:World) (hts:ts.In w) (hrow:Row w 6 Ex.cells h xs) (hin: ∀e∈xs,e.In w) (hsz: ∀e∈xs,e.size≤1000000) (hlen:xs.length≤1000000) (hne:colsE ts.l xs≠0) :
  Calls Tryd.prog 74 #[.slice ts.h.ao ts.l.length ts.h.cap,.slice h.ao xs.length h.cap,.slice none 0 0] w fun r w'=>r = .returned (.tuple #[.slice none 0 0,.int .i64 (colsE ts.l xs)])∧Below w.heap.size w w':=
 (rcols_any h xs ts w hts hrow hin hsz hlen).mono fun r w' ⟨hr,hb⟩=>⟨by
  rcases hr with h|h
  ·exact h.2
  ·exact absurd h.1 hne,hb⟩
theorem rcols_yes (h:Hd) (xs:List Ex) (ts:IL) (w:World) (hts:ts.In w) (hrow:Row w 6 Ex.cells h xs) (hin: ∀e∈xs,e.In w) (hsz: ∀e∈xs,e.size≤1000000) (hlen:xs.length≤1000000) (h0:colsE ts.l xs=0) :
  Calls Tryd.prog 74 #[.slice ts.h.ao ts.l.length ts.h.cap,.slice h.ao xs.length h.cap,.slice none 0 0] w fun r w'=>(∃o:IL,r = .returned (.tuple #[.slice o.h.ao o.l.length o.h.cap,.int .i64 0])∧o.l=colsT ts.l xs∧o.In w'∧OwnIL w.heap.size w' o)∧Below w.heap.size w w':=
 (rcols_any h xs ts w hts hrow hin hsz hlen).mono fun r w' ⟨hr,hb⟩=>⟨by
  rcases hr with h|h
  ·exact absurd h0 h.1
  ·exact h.2,hb⟩
theorem agg_any (a:Agg) (ts:IL) (w:World) (hts:ts.In w) (hin:a.arg.In w) (hf:OpsAt w) (hsz:a.fn≠1→a.arg.size≤1000000) :
  Calls Tryd.prog 95 #[.slice ts.h.ao ts.l.length ts.h.cap,.agg #[.int .i64 a.fn,.int .i64 a.arg.op,.int .i64 a.arg.typ,.int .i64 a.arg.num,.string a.arg.text,.int .i64 a.arg.col,.slice a.arg.kh.ao a.arg.kids.length a.arg.kh.cap]] w fun r w'=>r = .returned (.tuple #[.int .i64 (aggTy ts.l a).2,.int .i64 (aggTy ts.l a).1])∧Below w.heap.size w w':=by
 obtain⟨fn,arg⟩:=a
 dsimp only at *
 have hak:=AK.any fn;have HBX:=ai (Box.new w #[.int .i64 fn,.int .i64 arg.op,.int .i64 arg.typ,.int .i64 arg.num,.string arg.text,.int .i64 arg.col,.slice arg.kh.ao arg.kids.length arg.kh.cap] 63);have HB0:=ai (belA (w:=w) (.cells #[.int .i64 fn,.int .i64 arg.op,.int .i64 arg.typ,.int .i64 arg.num,.string arg.text,.int .i64 arg.col,.slice arg.kh.ao arg.kids.length arg.kh.cap] 63))
 have HIN:=ai (hin.mono HB0.o);have HTS:=ai (hts.mono HB0.o);have HF:=ai (hf.mono HB0.o);obtain⟨⟨t,x⟩,hp⟩ : ∃p,arg.typ2 ts.l=p:=⟨_,rfl⟩;have HP:=ai hp;clear hin hf hts hp
 go_enter Tryd.func95,Tryd.ntmps95;go_upto_region 1 with(fail)
 generalize (w.alloc (.cells #[.int .i64 fn,.int .i64 arg.op,.int .i64 arg.typ,.int .i64 arg.num,.string arg.text,.int .i64 arg.col,.slice arg.kh.ao arg.kids.length arg.kh.cap] 63)) =W at *;have y0:=HBX.o.cell (j:=0) rfl
 have y1:=HBX.o.cell (j:=1) rfl
 have y2:=HBX.o.cell (j:=2) rfl
 have y3:=HBX.o.cell (j:=3) rfl
 have y4:=HBX.o.cell (j:=4) rfl
 have y5:=HBX.o.cell (j:=5) rfl
 have y6:=HBX.o.cell (j:=6) rfl
 rcases hak with h| ⟨h1,h⟩ |h| ⟨h1,h2,h3,h4,h5,h6⟩ |h|h|h
 ·have HA:=ai (at_bad (ts:=ts.l) (a:=⟨fn,arg⟩) (.inl h))
  clear hsz;go_wp2
  go_ret2
  exact⟨by rw [HA.o];rfl,HB0.o⟩
 ·have HA:=ai (at_bad (ts:=ts.l) (a:=⟨fn,arg⟩) (.inr h))
  clear hsz;go_wp2
  go_ret2
  exact⟨by rw [HA.o];rfl,HB0.o⟩
 ·subst h
  clear hsz;obtain⟨b,hb⟩ : ∃b,eqb arg.er noEx.er=b:=⟨_,rfl⟩;have HE:=ai hb
  cases b
  ·have HA:=ai (at_rowsN (ts:=ts.l) (a:=⟨1,arg⟩) rfl hb)
   clear hb;go_wp2_with (go_at_call 91;refine(esame_any HIN.o noEx _ HIN.o (noEx_in _)).mono ?_;rintro r w2 ⟨rfl,hb2⟩;rw [HE.o];have HB2:=ai hb2;clear y0 y1 y2 y3 y4 y5 y6;have z0:=(HBX.o.below hb2).cell (j:=0) rfl;clear hb2)
   go_ret2
   exact⟨by rw [HA.o];rfl,HB0.o.trans (HB2.o.mono HB0.o.size)⟩
  ·have HA:=ai (at_rowsY (ts:=ts.l) (a:=⟨1,arg⟩) rfl hb)
   clear hb;go_wp2_with (go_at_call 91;refine(esame_any HIN.o noEx _ HIN.o (noEx_in _)).mono ?_;rintro r w2 ⟨rfl,hb2⟩;rw [HE.o];have HB2:=ai hb2;clear y0 y1 y2 y3 y4 y5 y6;have z0:=(HBX.o.below hb2).cell (j:=0) rfl;clear hb2)
   go_ret2
   exact⟨by rw [HA.o];rfl,HB0.o.trans (HB2.o.mono HB0.o.size)⟩
 ·have hne:=beq_eq_false_iff_ne.1 h3
  have HSZ:=ai (hsz hne);have g1:=h1;have g2:=h2;clear hsz;by_cases hx:x=0
  ·subst hx
   have HA:=ai (at_ok (ts:=ts.l) (a:=⟨fn,arg⟩) g1 g2 hne (by show(arg.typ2 ts.l).2=0;rw [HP.o]))
   clear hne g1 g2;go_wp2_with (go_at_call 49;refine(etype_any HIN.o ts _ HTS.o HIN.o HF.o HSZ.o).mono ?_;rintro r w2 ⟨rfl,hb2⟩;rw [HP.o];have HB2:=ai hb2;clear y0 y1 y2 y3 y4 y5 y6;have z0:=(HBX.o.below hb2).cell (j:=0) rfl;clear hb2)
   go_ret2
   exact⟨by rw [HA.o];simp [HP.o,beq_eq_false_iff_ne.1 h4,beq_eq_false_iff_ne.1 h5,beq_eq_false_iff_ne.1 h6],HB0.o.trans (HB2.o.mono HB0.o.size)⟩
  ·have hx2: (x != 0) =true:=bne_iff_ne.2 hx
   have HA:=ai (at_err (ts:=ts.l) (a:=⟨fn,arg⟩) g1 g2 hne (x:=x) (by show(arg.typ2 ts.l).2=x;rw [HP.o]) hx)
   clear hne hx g1 g2;go_wp2_with (go_at_call 49;refine(etype_any HIN.o ts _ HTS.o HIN.o HF.o HSZ.o).mono ?_;rintro r w2 ⟨rfl,hb2⟩;rw [HP.o];have HB2:=ai hb2;clear y0 y1 y2 y3 y4 y5 y6;have z0:=(HBX.o.below hb2).cell (j:=0) rfl;clear hb2)
   go_ret2
   exact⟨by rw [HA.o];rfl,HB0.o.trans (HB2.o.mono HB0.o.size)⟩
 ·subst h
  have HSZ:=ai (hsz (by decide))
  have hne: (4:Int)≠1:=by decide
  have g1: ¬(4:Int) <1:=by decide
  have g2: ¬(6:Int) <4:=by decide
  clear hsz;by_cases hx:x=0
  ·subst hx
   have HA:=ai (at_ok (ts:=ts.l) (a:=⟨4,arg⟩) g1 g2 hne (by show(arg.typ2 ts.l).2=0;rw [HP.o]))
   clear hne g1 g2;by_cases ht:t=1
   ·have ht2: (t != 1) =false:=by simp [ht]
    have HT:=ai ht;clear ht;go_wp2_with (go_at_call 49;refine(etype_any HIN.o ts _ HTS.o HIN.o HF.o HSZ.o).mono ?_;rintro r w2 ⟨rfl,hb2⟩;rw [HP.o];have HB2:=ai hb2;clear y0 y1 y2 y3 y4 y5 y6;have z0:=(HBX.o.below hb2).cell (j:=0) rfl;clear hb2)
    go_ret2
    exact⟨by rw [HA.o];simp [HP.o,HT.o],HB0.o.trans (HB2.o.mono HB0.o.size)⟩
   ·have ht2: (t != 1) =true:=bne_iff_ne.2 ht
    have HT:=ai ht;clear ht;go_wp2_with (go_at_call 49;refine(etype_any HIN.o ts _ HTS.o HIN.o HF.o HSZ.o).mono ?_;rintro r w2 ⟨rfl,hb2⟩;rw [HP.o];have HB2:=ai hb2;clear y0 y1 y2 y3 y4 y5 y6;have z0:=(HBX.o.below hb2).cell (j:=0) rfl;clear hb2)
    go_ret2
    exact⟨by rw [HA.o];simp [HP.o,HT.o],HB0.o.trans (HB2.o.mono HB0.o.size)⟩
  ·have hx2: (x != 0) =true:=bne_iff_ne.2 hx
   have HA:=ai (at_err (ts:=ts.l) (a:=⟨4,arg⟩) g1 g2 hne (x:=x) (by show(arg.typ2 ts.l).2=x;rw [HP.o]) hx)
   clear hne hx g1 g2;go_wp2_with (go_at_call 49;refine(etype_any HIN.o ts _ HTS.o HIN.o HF.o HSZ.o).mono ?_;rintro r w2 ⟨rfl,hb2⟩;rw [HP.o];have HB2:=ai hb2;clear y0 y1 y2 y3 y4 y5 y6;have z0:=(HBX.o.below hb2).cell (j:=0) rfl;clear hb2)
   go_ret2
   exact⟨by rw [HA.o];rfl,HB0.o.trans (HB2.o.mono HB0.o.size)⟩
 ·subst h
  have HSZ:=ai (hsz (by decide))
  have hne: (5:Int)≠1:=by decide
  have g1: ¬(5:Int) <1:=by decide
  have g2: ¬(6:Int) <5:=by decide
  clear hsz;by_cases hx:x=0
  ·subst hx
   have HA:=ai (at_ok (ts:=ts.l) (a:=⟨5,arg⟩) g1 g2 hne (by show(arg.typ2 ts.l).2=0;rw [HP.o]))
   clear hne g1 g2;go_wp2_with (go_at_call 49;refine(etype_any HIN.o ts _ HTS.o HIN.o HF.o HSZ.o).mono ?_;rintro r w2 ⟨rfl,hb2⟩;rw [HP.o];have HB2:=ai hb2;clear y0 y1 y2 y3 y4 y5 y6;have z0:=(HBX.o.below hb2).cell (j:=0) rfl;clear hb2)
   go_ret2
   exact⟨by rw [HA.o];simp [HP.o],HB0.o.trans (HB2.o.mono HB0.o.size)⟩
  ·have hx2: (x != 0) =true:=bne_iff_ne.2 hx
   have HA:=ai (at_err (ts:=ts.l) (a:=⟨5,arg⟩) g1 g2 hne (x:=x) (by show(arg.typ2 ts.l).2=x;rw [HP.o]) hx)
   clear hne hx g1 g2;go_wp2_with (go_at_call 49;refine(etype_any HIN.o ts _ HTS.o HIN.o HF.o HSZ.o).mono ?_;rintro r w2 ⟨rfl,hb2⟩;rw [HP.o];have HB2:=ai hb2;clear y0 y1 y2 y3 y4 y5 y6;have z0:=(HBX.o.below hb2).cell (j:=0) rfl;clear hb2)
   go_ret2
   exact⟨by rw [HA.o];rfl,HB0.o.trans (HB2.o.mono HB0.o.size)⟩
 ·subst h
  have HSZ:=ai (hsz (by decide))
  have hne: (6:Int)≠1:=by decide
  have g1: ¬(6:Int) <1:=by decide
  have g2: ¬(6:Int) <6:=by decide
  clear hsz;by_cases hx:x=0
  ·subst hx
   have HA:=ai (at_ok (ts:=ts.l) (a:=⟨6,arg⟩) g1 g2 hne (by show(arg.typ2 ts.l).2=0;rw [HP.o]))
   clear hne g1 g2;go_wp2_with (go_at_call 49;refine(etype_any HIN.o ts _ HTS.o HIN.o HF.o HSZ.o).mono ?_;rintro r w2 ⟨rfl,hb2⟩;rw [HP.o];have HB2:=ai hb2;clear y0 y1 y2 y3 y4 y5 y6;have z0:=(HBX.o.below hb2).cell (j:=0) rfl;clear hb2)
   go_ret2
   exact⟨by rw [HA.o];simp [HP.o],HB0.o.trans (HB2.o.mono HB0.o.size)⟩
  ·have hx2: (x != 0) =true:=bne_iff_ne.2 hx
   have HA:=ai (at_err (ts:=ts.l) (a:=⟨6,arg⟩) g1 g2 hne (x:=x) (by show(arg.typ2 ts.l).2=x;rw [HP.o]) hx)
   clear hne hx g1 g2;go_wp2_with (go_at_call 49;refine(etype_any HIN.o ts _ HTS.o HIN.o HF.o HSZ.o).mono ?_;rintro r w2 ⟨rfl,hb2⟩;rw [HP.o];have HB2:=ai hb2;clear y0 y1 y2 y3 y4 y5 y6;have z0:=(HBX.o.below hb2).cell (j:=0) rfl;clear hb2)
   go_ret2
   exact⟨by rw [HA.o];rfl,HB0.o.trans (HB2.o.mono HB0.o.size)⟩
theorem cgroup_any (q:Qu) (ts:IL) (w:World) (hts:ts.In w) (hin:q.flat w) (hf:OpsAt w) (hse: ∀e∈q.exprs,e.size≤1000000) (hsa: ∀a∈q.aggs,a.fn≠1→a.arg.size≤1000000) (hlen:q.exprs.length+q.aggs.length≤2000000) :
  Calls Tryd.prog 67 #[.slice ts.h.ao ts.l.length ts.h.cap,.agg #[.int .i64 q.op,.string q.table,.int .i64 q.kind,.bool q.all,.int .i64 q.cond.op,.int .i64 q.cond.typ,.int .i64 q.cond.num,.string q.cond.text,.int .i64 q.cond.col,.slice q.cond.kh.ao q.cond.kids.length q.cond.kh.cap,.slice q.eh.ao q.exprs.length q.eh.cap,.slice q.ah.ao q.aggs.length q.ah.cap,.slice q.types.h.ao q.types.l.length q.types.h.cap,.slice q.rh.ao q.rows.length q.rh.cap,.slice q.qh.ao q.kids.length q.qh.cap]] w fun e w'=>TyOut (fun o=>w.heap.size≤o.h.b) (groupTy ts.l q) w' e∧Below w.heap.size w w':=by
 obtain⟨i0,hi,hz0,hz1,hz2⟩:=info_parts info3;have HI:=ai (And.intro hi (And.intro hz0 (And.intro hz1 hz2)));clear hi hz0 hz1 hz2;have HBX:=ai (Box.new w q.lit 57);have HB0:=ai (belA (w:=w) (.cells q.lit 57))
 have HIN:=ai (hin.mono HB0.o);have HTS:=ai (hts.mono HB0.o);have HF:=ai (hf.mono HB0.o);have HSE:=ai hse;have HSA:=ai hsa;have hwr:IntKind.i64.wrap ((q.exprs.length:Int) + (q.aggs.length:Int)) = ((q.exprs.length+q.aggs.length:Nat) :Int):=by rw [IntKind.wrap_i64];omega
 clear hin hts hse hsa hf
 go_enter Tryd.func67,Tryd.ntmps67;go_upto_region 1 with(fail)
 generalize hW: (w.alloc (.cells q.lit 57)) =W at *;have hWs:W.heap.size=w.heap.size+1:=by rw [←hW];exact World.size_alloc _ _
 clear hW;have y10:=HBX.o.cell (j:=10) rfl
 have y11:=HBX.o.cell (j:=11) rfl
 by_cases h9:q.exprs.length+q.aggs.length<1
 ·have HG:=ai (groupTy_9 (ts:=ts.l) (q:=q) (.inl h9))
  have h9': ((q.exprs.length+q.aggs.length:Nat) :Int) <1:=by omega
  clear h9;go_wp2
  go_ret2
  exact⟨TyOut.no rfl HG.o,HB0.o⟩
 by_cases h24:24<q.exprs.length+q.aggs.length
 ·have HG:=ai (groupTy_9 (ts:=ts.l) (q:=q) (.inr h24))
  have h9': ¬((q.exprs.length+q.aggs.length:Nat) :Int) <1:=by omega
  have h24': (24:Int) < ((q.exprs.length+q.aggs.length:Nat) :Int):=by omega
  clear h9 h24;go_wp2
  go_ret2
  exact⟨TyOut.no rfl HG.o,HB0.o⟩
 have HN:=ai (show¬(q.exprs.length+q.aggs.length<1∨24<q.exprs.length+q.aggs.length) by omega)
 have h9': ¬((q.exprs.length+q.aggs.length:Nat) :Int) <1:=by omega
 have h24': ¬(24:Int) < ((q.exprs.length+q.aggs.length:Nat) :Int):=by omega
 have hel:q.exprs.length≤24:=by omega
 have hal:q.aggs.length≤24:=by omega
 clear h9 h24;obtain⟨x,hx⟩ : ∃x,colsE ts.l q.exprs=x:=⟨_,rfl⟩;have HX:=ai hx;by_cases hx0:x=0
 case neg=>
  have HG:=ai (groupTy_c (ts:=ts.l) (q:=q) HN.o hx hx0)
  have hx2: (x != 0) =true:=bne_iff_ne.2 hx0;have HX0:=ai hx0;clear hx hx0;go_wp2_with (go_at_call 65;refine(ccols_no q.eh q.exprs ts _ HTS.o HIN.o.re HIN.o.es HF.o HSE.o (by omega) (by rw [HX.o];exact HX0.o)).mono ?_;rintro e w1 ⟨rfl,hb1⟩;rw [HX.o];have HB1:=ai hb1;clear hb1)
  go_ret2
  exact⟨TyOut.no rfl HG.o,HB0.o.trans (HB1.o.mono HB0.o.size)⟩
 case pos=>
 subst hx0;clear hx;go_upto_region 7 with(go_at_call 65;refine(ccols_yes q.eh q.exprs ts _ HTS.o HIN.o.re HIN.o.es HF.o HSE.o (by omega) HX.o).mono ?_;rintro e w1 ⟨⟨o,rfl,ho,hoi,hown⟩,hb1⟩;have HO:=ai ho;have HOI:=ai hoi;have HOWN:=ai hown;have hol:o.l.length≤24:=(by rw [ho];simp only [colsT,List.length_map];omega);have HB1:=ai hb1;have z11:=(HBX.o.below hb1).cell (j:=11) rfl;clear y10 y11 ho hoi hown hb1)
 go_wp2;go_loopw [7,39] (fun v i wr=>∃k:Nat,k≤q.aggs.length∧i = .int .i64 k∧Hid (∀j (hj:j<q.aggs.length),j<k→(aggTy ts.l q.aggs[j]).1=0)∧Hid (wr.ownsRow W.heap.size 3 1 v (o.l.length+k) (o.l.flatMap icells ++ (q.aggs.take k).flatMap (atc ts.l)))∧Hid (Below W.heap.size W wr)) (fun _ i _=>q.aggs.length - (intOf i).toNat)
 case atStart=>exact⟨0,Nat.zero_le _,rfl,(fun j hj h=>absurd h (by omega)),(by refine ai ?_;simpa [OwnIL]using HOWN.o),HB1.o⟩
 case round=>
   obtain⟨k,hk,rfl,H0,HOX,HB⟩:=hrel;clear z11;by_cases hlt:k<q.aggs.length
   ·have hlti: (k:Int) <q.aggs.length:=by omega
    have HROW:=ai (HIN.o.ra.mono HB.o);have hix:=HROW.o.ix hlt Tryd.underlying53 sz74;obtain⟨c0,c1,c2,c3,c4,c5,c6⟩:=agg_at HROW.o hlt;have hbb:=HROW.o.blk hlt;have HE:=ai ((HIN.o.ags _ (List.getElem_mem hlt)).2.mono HB.o);have HES:=ai (HSA.o _ (List.getElem_mem hlt));obtain⟨a,haa⟩ : ∃a,q.aggs[k] =a:=⟨_,rfl⟩;have HAK:=ai haa;rw [haa]at c0 c1 c2 c3 c4 c5 c6 HE HES;clear haa;obtain⟨⟨x,t⟩,hp⟩ : ∃p,aggTy ts.l a=p:=⟨_,rfl⟩;have HP:=ai hp;have HT:=ai (show int64 t by have:=at_64 ts.l a;rw [hp]at this;exact this)
    clear hp;have HBA:=ai (bT HB.o (belA (w:=wr) (.cells #[.int .i64 a.fn,.int .i64 a.arg.op,.int .i64 a.arg.typ,.int .i64 a.arg.num,.string a.arg.text,.int .i64 a.arg.col,.slice a.arg.kh.ao a.arg.kids.length a.arg.kh.cap] 63)))
    have HBS:=ai (belA (w:=wr) (.cells #[.int .i64 a.fn,.int .i64 a.arg.op,.int .i64 a.arg.typ,.int .i64 a.arg.num,.string a.arg.text,.int .i64 a.arg.col,.slice a.arg.kh.ao a.arg.kids.length a.arg.kh.cap] 63))
    by_cases hx:x=0
    ·subst hx
     go_wp2_with (first
      | (go_at_call 95;refine(agg_any a ts _ (HTS.o.mono HBA.o) (HE.o.mono HBS.o) (HF.o.mono HBA.o) HES.o).mono ?_;rintro r w2 ⟨rfl,hb2⟩;rw [HP.o];have HB2:=ai (bT HBA.o hb2);have HO2:=ai (own_bel2 (HOX.o.alloc (.cells #[.int .i64 a.fn,.int .i64 a.arg.op,.int .i64 a.arg.typ,.int .i64 a.arg.num,.string a.arg.text,.int .i64 a.arg.col,.slice a.arg.kh.ao a.arg.kids.length a.arg.kh.cap] 63)) hb2);clear hb2)
      | (at_builtin;refine wpList_append_own _ rfl _ _ 22 rfl W.heap.size 3 i0 (.int .i64 0) 1 8 Tryd.underlying22 HI.o.1 HI.o.2.1 HI.o.2.2.1 HI.o.2.2.2 rfl (by decide) _ _ _ rfl (HO2.o.alloc _) ⟨w2.heap.size,0,none⟩ 1 1 [.int .i64 t] rfl rfl (new_cells (l:= [_])) one_int (by unfold maxLen;omega) (by omega) (by have:=HB2.o.size;simp;omega) ?_;intro v' w3 hown' hgrow _;have HOW:=ai hown';have HGW:=ai hgrow;clear hown' hgrow))
     have HO':=ai (own_snoc2 hlt (t:=t) (by rw [HAK.o,HP.o]) HOW.o)
     go_wp2;go_roundw
     case rel=>
      refine⟨k+1,by omega,by go_num,(fun j hj h=> ?_),HO'.o,grown1 HB2.o HB2.o.size HGW.o (fun b hb=>(HO2.o.lt b hb).1)⟩
      by_cases e:j=k
      ·subst e;rw [HAK.o,HP.o]
      ·exact H0.o j hj (by omega)
     case measure=>simp [intOf];omega
    ·have hx2: (x != 0) =true:=bne_iff_ne.2 hx
     have HG:=ai (groupTy_a (ts:=ts.l) (q:=q) HN.o HX.o (aggsE_at hlt H0.o (x:=x) (by rw [HAK.o,HP.o]) hx) hx)
     clear hx;go_wp2_with (go_at_call 95;refine(agg_any a ts _ (HTS.o.mono HBA.o) (HE.o.mono HBS.o) (HF.o.mono HBA.o) HES.o).mono ?_;rintro r w2 ⟨rfl,hb2⟩;rw [HP.o];have HB2:=ai (bT HBA.o hb2);clear hb2)
     go_ret2
     exact⟨TyOut.no rfl HG.o,HB0.o.trans (HB2.o.mono HB0.o.size)⟩
   ·have hlti: ¬(k:Int) <q.aggs.length:=by omega
    have hk':k=q.aggs.length:=by omega
    have ho:=HOX.o;rw [hk',List.take_length,atc_icells,←List.flatMap_append]at ho;obtain⟨r,hv,hr1,hr2,hr3⟩:=il_own ho (fun n hn=>by
     rcases List.mem_append.1 hn with hn|hn
     ·exact HOI.o.2 n hn
     ·exact aggsT_64 ts.l q.aggs n hn)
    have HV:=ai hv;have HR1:=ai hr1;have HR2:=ai hr2;have HR3:=ai hr3;have HG:=ai (groupTy_y (ts:=ts.l) (q:=q) HN.o HX.o (aggsE_all (fun j hj=>H0.o j hj (by omega))))
    clear hv hr1 hr2 hr3 ho;go_wp2
    go_ret2
    exact⟨TyOut.yes (o:=r) (by rw [HV.o];rfl) HR2.o (fun hp=>by have:=HR3.o.ge hp;omega) (by rw [HG.o,HR1.o,HO.o]),HB0.o.trans (HB.o.mono HB0.o.size)⟩
end Go.Proofs.YtogalchclmmfgaaDoor
namespace Go.Proofs.YtogalchclmmfgaaDoor
open Go.RowKit
theorem rgroup_any (q:Qu) (ts:IL) (w:World) (hts:ts.In w) (hin:q.flat w) (hse: ∀e∈q.exprs,e.size≤1000000) (hsa: ∀a∈q.aggs,a.fn≠1→a.arg.size≤1000000) (hlen:q.exprs.length+q.aggs.length≤2000000) :
  Calls Tryd.prog 76 #[.slice ts.h.ao ts.l.length ts.h.cap,.agg #[.int .i64 q.op,.string q.table,.int .i64 q.kind,.bool q.all,.int .i64 q.cond.op,.int .i64 q.cond.typ,.int .i64 q.cond.num,.string q.cond.text,.int .i64 q.cond.col,.slice q.cond.kh.ao q.cond.kids.length q.cond.kh.cap,.slice q.eh.ao q.exprs.length q.eh.cap,.slice q.ah.ao q.aggs.length q.ah.cap,.slice q.types.h.ao q.types.l.length q.types.h.cap,.slice q.rh.ao q.rows.length q.rh.cap,.slice q.qh.ao q.kids.length q.qh.cap]] w fun e w'=>TyOut (fun o=>w.heap.size≤o.h.b) (groupTy ts.l q) w' e∧Below w.heap.size w w':=by
 obtain⟨i0,hi,hz0,hz1,hz2⟩:=info_parts info3;have HI:=ai (And.intro hi (And.intro hz0 (And.intro hz1 hz2)));clear hi hz0 hz1 hz2;have HBX:=ai (Box.new w q.lit 57);have HB0:=ai (belA (w:=w) (.cells q.lit 57))
 have HIN:=ai (hin.mono HB0.o);have HTS:=ai (hts.mono HB0.o);have HSE:=ai hse;have HSA:=ai hsa;have hwr:IntKind.i64.wrap ((q.exprs.length:Int) + (q.aggs.length:Int)) = ((q.exprs.length+q.aggs.length:Nat) :Int):=by rw [IntKind.wrap_i64];omega
 clear hin hts hse hsa
 go_enter Tryd.func76,Tryd.ntmps76;go_upto_region 1 with(fail)
 generalize hW: (w.alloc (.cells q.lit 57)) =W at *;have hWs:W.heap.size=w.heap.size+1:=by rw [←hW];exact World.size_alloc _ _
 clear hW;have y10:=HBX.o.cell (j:=10) rfl
 have y11:=HBX.o.cell (j:=11) rfl
 by_cases h9:q.exprs.length+q.aggs.length<1
 ·have HG:=ai (groupTy_9 (ts:=ts.l) (q:=q) (.inl h9))
  have h9': ((q.exprs.length+q.aggs.length:Nat) :Int) <1:=by omega
  clear h9;go_wp2
  go_ret2
  exact⟨TyOut.no rfl HG.o,HB0.o⟩
 by_cases h24:24<q.exprs.length+q.aggs.length
 ·have HG:=ai (groupTy_9 (ts:=ts.l) (q:=q) (.inr h24))
  have h9': ¬((q.exprs.length+q.aggs.length:Nat) :Int) <1:=by omega
  have h24': (24:Int) < ((q.exprs.length+q.aggs.length:Nat) :Int):=by omega
  clear h9 h24;go_wp2
  go_ret2
  exact⟨TyOut.no rfl HG.o,HB0.o⟩
 have HN:=ai (show¬(q.exprs.length+q.aggs.length<1∨24<q.exprs.length+q.aggs.length) by omega)
 have h9': ¬((q.exprs.length+q.aggs.length:Nat) :Int) <1:=by omega
 have h24': ¬(24:Int) < ((q.exprs.length+q.aggs.length:Nat) :Int):=by omega
 have hel:q.exprs.length≤24:=by omega
 have hal:q.aggs.length≤24:=by omega
 clear h9 h24;obtain⟨x,hx⟩ : ∃x,colsE ts.l q.exprs=x:=⟨_,rfl⟩;have HX:=ai hx;by_cases hx0:x=0
 case neg=>
  have HG:=ai (groupTy_c (ts:=ts.l) (q:=q) HN.o hx hx0)
  have hx2: (x != 0) =true:=bne_iff_ne.2 hx0;have HX0:=ai hx0;clear hx hx0;go_wp2_with (go_at_call 74;refine(rcols_no q.eh q.exprs ts _ HTS.o HIN.o.re HIN.o.es HSE.o (by omega) (by rw [HX.o];exact HX0.o)).mono ?_;rintro e w1 ⟨rfl,hb1⟩;rw [HX.o];have HB1:=ai hb1;clear hb1)
  go_ret2
  exact⟨TyOut.no rfl HG.o,HB0.o.trans (HB1.o.mono HB0.o.size)⟩
 case pos=>
 subst hx0;clear hx;go_upto_region 7 with(go_at_call 74;refine(rcols_yes q.eh q.exprs ts _ HTS.o HIN.o.re HIN.o.es HSE.o (by omega) HX.o).mono ?_;rintro e w1 ⟨⟨o,rfl,ho,hoi,hown⟩,hb1⟩;have HO:=ai ho;have HOI:=ai hoi;have HOWN:=ai hown;have hol:o.l.length≤24:=(by rw [ho];simp only [colsT,List.length_map];omega);have HB1:=ai hb1;have z11:=(HBX.o.below hb1).cell (j:=11) rfl;clear y10 y11 ho hoi hown hb1)
 go_wp2;go_loopw [7,9] (fun v i wr=>∃k:Nat,k≤q.aggs.length∧i = .int .i64 k∧Hid (∀j (hj:j<q.aggs.length),j<k→(aggTy ts.l q.aggs[j]).1=0)∧Hid (wr.ownsRow W.heap.size 3 1 v (o.l.length+k) (o.l.flatMap icells ++ (q.aggs.take k).flatMap (atc ts.l)))∧Hid (Below W.heap.size W wr)) (fun _ i _=>q.aggs.length - (intOf i).toNat)
 case atStart=>exact⟨0,Nat.zero_le _,rfl,(fun j hj h=>absurd h (by omega)),(by refine ai ?_;simpa [OwnIL]using HOWN.o),HB1.o⟩
 case round=>
   obtain⟨k,hk,rfl,H0,HOX,HB⟩:=hrel;clear z11;have y11:=(HBX.o.below HB.o).cell (j:=11) rfl
   by_cases hlt:k<q.aggs.length
   ·have hlti: (k:Int) <q.aggs.length:=by omega
    have HROW:=ai (HIN.o.ra.mono HB.o);have hix:=HROW.o.ix hlt Tryd.underlying53 sz74;obtain⟨c0,c1,c2,c3,c4,c5,c6⟩:=agg_at HROW.o hlt;have hbb:=HROW.o.blk hlt;have HE:=ai ((HIN.o.ags _ (List.getElem_mem hlt)).2.mono HB.o);have hsz:=HSA.o _ (List.getElem_mem hlt);obtain⟨a,haa⟩ : ∃a,q.aggs[k] =a:=⟨_,rfl⟩;have HAK:=ai haa;rw [haa]at c0 c1 c2 c3 c4 c5 c6 HE hsz;clear haa;obtain⟨fn,arg⟩:=a
    dsimp only at c0 c1 c2 c3 c4 c5 c6 HE hsz
    obtain⟨⟨t,x⟩,hp⟩ : ∃p,arg.typ2 ts.l=p:=⟨_,rfl⟩;have HP:=ai hp;have HT:=ai (show int64 t by have:=typ2_64 ts.l arg;rw [hp]at this;exact this)
    clear hp;have hak:=AK.any fn;have HBS:=ai (belA (w:=wr) (.cells #[.int .i64 fn,.int .i64 arg.op,.int .i64 arg.typ,.int .i64 arg.num,.string arg.text,.int .i64 arg.col,.slice arg.kh.ao arg.kids.length arg.kh.cap] 63))
    have HBA:=ai (bT HB.o HBS.o);have HBB:=ai (Box.new wr #[.int .i64 fn,.int .i64 arg.op,.int .i64 arg.typ,.int .i64 arg.num,.string arg.text,.int .i64 arg.col,.slice arg.kh.ao arg.kids.length arg.kh.cap] 63);rcases hak with h| ⟨h1,h⟩ |h| ⟨h1,h2,h3,h4,h5,h6⟩ |h|h|h
    ·have HA:=ai (at_bad (ts:=ts.l) (a:=⟨fn,arg⟩) (.inl h))
     have HG:=ai (groupTy_a (ts:=ts.l) (q:=q) HN.o HX.o (aggsE_at hlt H0.o (x:=1) (by rw [HAK.o,HA.o]) (by decide)) (by decide))
     clear hsz;go_wp2
     go_ret2
     exact⟨TyOut.no rfl HG.o,HB0.o.trans (HBA.o.mono HB0.o.size)⟩
    ·have HA:=ai (at_bad (ts:=ts.l) (a:=⟨fn,arg⟩) (.inr h))
     have HG:=ai (groupTy_a (ts:=ts.l) (q:=q) HN.o HX.o (aggsE_at hlt H0.o (x:=1) (by rw [HAK.o,HA.o]) (by decide)) (by decide))
     clear hsz;go_wp2
     go_ret2
     exact⟨TyOut.no rfl HG.o,HB0.o.trans (HBA.o.mono HB0.o.size)⟩
    ·subst h
     clear hsz;obtain⟨b,hb⟩ : ∃b,eqb arg.er noEx.er=b:=⟨_,rfl⟩;have HZE:=ai hb
     cases b
     ·have HA:=ai (at_rowsN (ts:=ts.l) (a:=⟨1,arg⟩) rfl hb)
      have HG:=ai (groupTy_a (ts:=ts.l) (q:=q) HN.o HX.o (aggsE_at hlt H0.o (x:=1) (by rw [HAK.o,HA.o]) (by decide)) (by decide))
      clear hb;go_wp2_with (go_at_call 96;refine(rzero_any arg _ (HE.o.mono HBS.o)).mono ?_;rintro r w2 ⟨rfl,hb2⟩;rw [HZE.o];have HB2:=ai (bT HBA.o hb2);have HO2:=ai (own_bel2 (HOX.o.alloc _) hb2);have b2:=(HBB.o.below hb2).cell (j:=0) rfl;clear hb2)
      go_ret2
      exact⟨TyOut.no rfl HG.o,HB0.o.trans (HB2.o.mono HB0.o.size)⟩
     ·have HA:=ai (at_rowsY (ts:=ts.l) (a:=⟨1,arg⟩) rfl hb)
      clear hb;go_wp2_with (first| (go_at_call 96;refine(rzero_any arg _ (HE.o.mono HBS.o)).mono ?_;rintro r w2 ⟨rfl,hb2⟩;rw [HZE.o];have HB2:=ai (bT HBA.o hb2);have HO2:=ai (own_bel2 (HOX.o.alloc _) hb2);have b2:=(HBB.o.below hb2).cell (j:=0) rfl;clear hb2) | (at_builtin;refine wpList_append_own _ rfl _ _ 22 rfl W.heap.size 3 i0 (.int .i64 0) 1 8 Tryd.underlying22 HI.o.1 HI.o.2.1 HI.o.2.2.1 HI.o.2.2.2 rfl (by decide) _ _ _ rfl (HO2.o.alloc _) ⟨w2.heap.size,0,none⟩ 1 1 [.int .i64 1] rfl rfl (new_cells (l:= [_])) one_int (by unfold maxLen;omega) (by omega) (by have:=HB2.o.size;simp;omega) ?_;intro v' w3 hown' hgrow _;have HOW:=ai hown';have HGW:=ai hgrow;clear hown' hgrow))
      have HO':=ai (own_snoc2 hlt (t:=1) (by rw [HAK.o,HA.o]) HOW.o)
      go_wp2;go_roundw
      case rel=>
       refine⟨k+1,by omega,by go_num,(fun j hj h=> ?_),HO'.o,grown1 HB2.o HB2.o.size HGW.o (fun b hb=>(HO2.o.lt b hb).1)⟩
       by_cases e:j=k
       ·subst e;rw [HAK.o,HA.o]
       ·exact H0.o j hj (by omega)
      case measure=>simp [intOf];omega
    ·have hne:=beq_eq_false_iff_ne.1 h3
     have h3': (fn != 1) =true:=bne_iff_ne.2 hne;have HSZ:=ai (hsz hne);have g1:=h1;have g2:=h2;clear hsz;by_cases hx:x=0
     ·subst hx
      have hA0:=at_ok (ts:=ts.l) (a:=⟨fn,arg⟩) g1 g2 hne (by show(arg.typ2 ts.l).2=0;rw [HP.o])
      clear hne g1 g2;have HA:=ai (show aggTy ts.l ⟨fn,arg⟩ = (0,1) by rw [hA0];simp [HP.o,beq_eq_false_iff_ne.1 h4,beq_eq_false_iff_ne.1 h5,beq_eq_false_iff_ne.1 h6])
      clear hA0;go_wp2_with (first| (go_at_call 56;refine(rtype_any HE.o ts _ (HTS.o.mono HBA.o) (HE.o.mono HBS.o) HSZ.o).mono ?_;rintro r w2 ⟨rfl,hb2⟩;rw [HP.o];have HB2:=ai (bT HBA.o hb2);have HO2:=ai (own_bel2 (HOX.o.alloc _) hb2);have b2:=(HBB.o.below hb2).cell (j:=0) rfl;clear hb2) | (at_builtin;refine wpList_append_own _ rfl _ _ 22 rfl W.heap.size 3 i0 (.int .i64 0) 1 8 Tryd.underlying22 HI.o.1 HI.o.2.1 HI.o.2.2.1 HI.o.2.2.2 rfl (by decide) _ _ _ rfl (HO2.o.alloc _) ⟨w2.heap.size,0,none⟩ 1 1 [.int .i64 1] rfl rfl (new_cells (l:= [_])) one_int (by unfold maxLen;omega) (by omega) (by have:=HB2.o.size;simp;omega) ?_;intro v' w3 hown' hgrow _;have HOW:=ai hown';have HGW:=ai hgrow;clear hown' hgrow))
      have HO':=ai (own_snoc2 hlt (t:=1) (by rw [HAK.o,HA.o]) HOW.o)
      go_wp2;go_roundw
      case rel=>
       refine⟨k+1,by omega,by go_num,(fun j hj h=> ?_),HO'.o,grown1 HB2.o HB2.o.size HGW.o (fun b hb=>(HO2.o.lt b hb).1)⟩
       by_cases e:j=k
       ·subst e;rw [HAK.o,HA.o]
       ·exact H0.o j hj (by omega)
      case measure=>simp [intOf];omega
     ·have hx2: (x != 0) =true:=bne_iff_ne.2 hx
      have HA:=ai (at_err (ts:=ts.l) (a:=⟨fn,arg⟩) g1 g2 hne (x:=x) (by show(arg.typ2 ts.l).2=x;rw [HP.o]) hx)
      have HG:=ai (groupTy_a (ts:=ts.l) (q:=q) HN.o HX.o (aggsE_at hlt H0.o (x:=x) (by rw [HAK.o,HA.o]) hx) hx)
      clear hne hx g1 g2;go_wp2_with (go_at_call 56;refine(rtype_any HE.o ts _ (HTS.o.mono HBA.o) (HE.o.mono HBS.o) HSZ.o).mono ?_;rintro r w2 ⟨rfl,hb2⟩;rw [HP.o];have HB2:=ai (bT HBA.o hb2);have HO2:=ai (own_bel2 (HOX.o.alloc _) hb2);have b2:=(HBB.o.below hb2).cell (j:=0) rfl;clear hb2)
      go_ret2
      exact⟨TyOut.no rfl HG.o,HB0.o.trans (HB2.o.mono HB0.o.size)⟩
    ·subst h
     have HSZ:=ai (hsz (by decide))
     have hne: (4:Int)≠1:=by decide
     have g1: ¬(4:Int) <1:=by decide
     have g2: ¬(6:Int) <4:=by decide
     clear hsz;by_cases hx:x=0
     ·subst hx
      have hA0:=at_ok (ts:=ts.l) (a:=⟨4,arg⟩) g1 g2 hne (by show(arg.typ2 ts.l).2=0;rw [HP.o])
      clear hne g1 g2;by_cases ht:t=1
      ·have ht2: (t != 1) =false:=by simp [ht]
       have HA:=ai (show aggTy ts.l ⟨4,arg⟩ = (0,1) by rw [hA0];simp [HP.o,ht])
       clear ht hA0;go_wp2_with (first| (go_at_call 56;refine(rtype_any HE.o ts _ (HTS.o.mono HBA.o) (HE.o.mono HBS.o) HSZ.o).mono ?_;rintro r w2 ⟨rfl,hb2⟩;rw [HP.o];have HB2:=ai (bT HBA.o hb2);have HO2:=ai (own_bel2 (HOX.o.alloc _) hb2);have b2:=(HBB.o.below hb2).cell (j:=0) rfl;clear hb2) | (at_builtin;refine wpList_append_own _ rfl _ _ 22 rfl W.heap.size 3 i0 (.int .i64 0) 1 8 Tryd.underlying22 HI.o.1 HI.o.2.1 HI.o.2.2.1 HI.o.2.2.2 rfl (by decide) _ _ _ rfl (HO2.o.alloc _) ⟨w2.heap.size,0,none⟩ 1 1 [.int .i64 1] rfl rfl (new_cells (l:= [_])) one_int (by unfold maxLen;omega) (by omega) (by have:=HB2.o.size;simp;omega) ?_;intro v' w3 hown' hgrow _;have HOW:=ai hown';have HGW:=ai hgrow;clear hown' hgrow))
       have HO':=ai (own_snoc2 hlt (t:=1) (by rw [HAK.o,HA.o]) HOW.o)
       go_wp2;go_roundw
       case rel=>
        refine⟨k+1,by omega,by go_num,(fun j hj h=> ?_),HO'.o,grown1 HB2.o HB2.o.size HGW.o (fun b hb=>(HO2.o.lt b hb).1)⟩
        by_cases e:j=k
        ·subst e;rw [HAK.o,HA.o]
        ·exact H0.o j hj (by omega)
       case measure=>simp [intOf];omega
      ·have ht2: (t != 1) =true:=bne_iff_ne.2 ht
       have HA:=ai (show aggTy ts.l ⟨4,arg⟩ = (4,0) by rw [hA0];simp [HP.o,ht])
       have HG:=ai (groupTy_a (ts:=ts.l) (q:=q) HN.o HX.o (aggsE_at hlt H0.o (x:=4) (by rw [HAK.o,HA.o]) (by decide)) (by decide))
       clear ht hA0;go_wp2_with (go_at_call 56;refine(rtype_any HE.o ts _ (HTS.o.mono HBA.o) (HE.o.mono HBS.o) HSZ.o).mono ?_;rintro r w2 ⟨rfl,hb2⟩;rw [HP.o];have HB2:=ai (bT HBA.o hb2);have HO2:=ai (own_bel2 (HOX.o.alloc _) hb2);have b2:=(HBB.o.below hb2).cell (j:=0) rfl;clear hb2)
       go_ret2
       exact⟨TyOut.no rfl HG.o,HB0.o.trans (HB2.o.mono HB0.o.size)⟩
     ·have hx2: (x != 0) =true:=bne_iff_ne.2 hx
      have HA:=ai (at_err (ts:=ts.l) (a:=⟨4,arg⟩) g1 g2 hne (x:=x) (by show(arg.typ2 ts.l).2=x;rw [HP.o]) hx)
      have HG:=ai (groupTy_a (ts:=ts.l) (q:=q) HN.o HX.o (aggsE_at hlt H0.o (x:=x) (by rw [HAK.o,HA.o]) hx) hx)
      clear hne hx g1 g2;go_wp2_with (go_at_call 56;refine(rtype_any HE.o ts _ (HTS.o.mono HBA.o) (HE.o.mono HBS.o) HSZ.o).mono ?_;rintro r w2 ⟨rfl,hb2⟩;rw [HP.o];have HB2:=ai (bT HBA.o hb2);have HO2:=ai (own_bel2 (HOX.o.alloc _) hb2);have b2:=(HBB.o.below hb2).cell (j:=0) rfl;clear hb2)
      go_ret2
      exact⟨TyOut.no rfl HG.o,HB0.o.trans (HB2.o.mono HB0.o.size)⟩
    ·subst h
     have HSZ:=ai (hsz (by decide))
     have hne: (5:Int)≠1:=by decide
     have g1: ¬(5:Int) <1:=by decide
     have g2: ¬(6:Int) <5:=by decide
     clear hsz;by_cases hx:x=0
     ·subst hx
      have hA0:=at_ok (ts:=ts.l) (a:=⟨5,arg⟩) g1 g2 hne (by show(arg.typ2 ts.l).2=0;rw [HP.o])
      clear hne g1 g2;have HA:=ai (show aggTy ts.l ⟨5,arg⟩ = (0,t) by rw [hA0];simp [HP.o])
      clear hA0;go_wp2_with (first| (go_at_call 56;refine(rtype_any HE.o ts _ (HTS.o.mono HBA.o) (HE.o.mono HBS.o) HSZ.o).mono ?_;rintro r w2 ⟨rfl,hb2⟩;rw [HP.o];have HB2:=ai (bT HBA.o hb2);have HO2:=ai (own_bel2 (HOX.o.alloc _) hb2);have b2:=(HBB.o.below hb2).cell (j:=0) rfl;clear hb2) | (at_builtin;refine wpList_append_own _ rfl _ _ 22 rfl W.heap.size 3 i0 (.int .i64 0) 1 8 Tryd.underlying22 HI.o.1 HI.o.2.1 HI.o.2.2.1 HI.o.2.2.2 rfl (by decide) _ _ _ rfl (HO2.o.alloc _) ⟨w2.heap.size,0,none⟩ 1 1 [.int .i64 t] rfl rfl (new_cells (l:= [_])) one_int (by unfold maxLen;omega) (by omega) (by have:=HB2.o.size;simp;omega) ?_;intro v' w3 hown' hgrow _;have HOW:=ai hown';have HGW:=ai hgrow;clear hown' hgrow))
      have HO':=ai (own_snoc2 hlt (t:=t) (by rw [HAK.o,HA.o]) HOW.o)
      go_wp2;go_roundw
      case rel=>
       refine⟨k+1,by omega,by go_num,(fun j hj h=> ?_),HO'.o,grown1 HB2.o HB2.o.size HGW.o (fun b hb=>(HO2.o.lt b hb).1)⟩
       by_cases e:j=k
       ·subst e;rw [HAK.o,HA.o]
       ·exact H0.o j hj (by omega)
      case measure=>simp [intOf];omega
     ·have hx2: (x != 0) =true:=bne_iff_ne.2 hx
      have HA:=ai (at_err (ts:=ts.l) (a:=⟨5,arg⟩) g1 g2 hne (x:=x) (by show(arg.typ2 ts.l).2=x;rw [HP.o]) hx)
      have HG:=ai (groupTy_a (ts:=ts.l) (q:=q) HN.o HX.o (aggsE_at hlt H0.o (x:=x) (by rw [HAK.o,HA.o]) hx) hx)
      clear hne hx g1 g2;go_wp2_with (go_at_call 56;refine(rtype_any HE.o ts _ (HTS.o.mono HBA.o) (HE.o.mono HBS.o) HSZ.o).mono ?_;rintro r w2 ⟨rfl,hb2⟩;rw [HP.o];have HB2:=ai (bT HBA.o hb2);have HO2:=ai (own_bel2 (HOX.o.alloc _) hb2);have b2:=(HBB.o.below hb2).cell (j:=0) rfl;clear hb2)
      go_ret2
      exact⟨TyOut.no rfl HG.o,HB0.o.trans (HB2.o.mono HB0.o.size)⟩
    ·subst h
     have HSZ:=ai (hsz (by decide))
     have hne: (6:Int)≠1:=by decide
     have g1: ¬(6:Int) <1:=by decide
     have g2: ¬(6:Int) <6:=by decide
     clear hsz;by_cases hx:x=0
     ·subst hx
      have hA0:=at_ok (ts:=ts.l) (a:=⟨6,arg⟩) g1 g2 hne (by show(arg.typ2 ts.l).2=0;rw [HP.o])
      clear hne g1 g2;have HA:=ai (show aggTy ts.l ⟨6,arg⟩ = (0,t) by rw [hA0];simp [HP.o])
      clear hA0;go_wp2_with (first| (go_at_call 56;refine(rtype_any HE.o ts _ (HTS.o.mono HBA.o) (HE.o.mono HBS.o) HSZ.o).mono ?_;rintro r w2 ⟨rfl,hb2⟩;rw [HP.o];have HB2:=ai (bT HBA.o hb2);have HO2:=ai (own_bel2 (HOX.o.alloc _) hb2);have b2:=(HBB.o.below hb2).cell (j:=0) rfl;clear hb2) | (at_builtin;refine wpList_append_own _ rfl _ _ 22 rfl W.heap.size 3 i0 (.int .i64 0) 1 8 Tryd.underlying22 HI.o.1 HI.o.2.1 HI.o.2.2.1 HI.o.2.2.2 rfl (by decide) _ _ _ rfl (HO2.o.alloc _) ⟨w2.heap.size,0,none⟩ 1 1 [.int .i64 t] rfl rfl (new_cells (l:= [_])) one_int (by unfold maxLen;omega) (by omega) (by have:=HB2.o.size;simp;omega) ?_;intro v' w3 hown' hgrow _;have HOW:=ai hown';have HGW:=ai hgrow;clear hown' hgrow))
      have HO':=ai (own_snoc2 hlt (t:=t) (by rw [HAK.o,HA.o]) HOW.o)
      go_wp2;go_roundw
      case rel=>
       refine⟨k+1,by omega,by go_num,(fun j hj h=> ?_),HO'.o,grown1 HB2.o HB2.o.size HGW.o (fun b hb=>(HO2.o.lt b hb).1)⟩
       by_cases e:j=k
       ·subst e;rw [HAK.o,HA.o]
       ·exact H0.o j hj (by omega)
      case measure=>simp [intOf];omega
     ·have hx2: (x != 0) =true:=bne_iff_ne.2 hx
      have HA:=ai (at_err (ts:=ts.l) (a:=⟨6,arg⟩) g1 g2 hne (x:=x) (by show(arg.typ2 ts.l).2=x;rw [HP.o]) hx)
      have HG:=ai (groupTy_a (ts:=ts.l) (q:=q) HN.o HX.o (aggsE_at hlt H0.o (x:=x) (by rw [HAK.o,HA.o]) hx) hx)
      clear hne hx g1 g2;go_wp2_with (go_at_call 56;refine(rtype_any HE.o ts _ (HTS.o.mono HBA.o) (HE.o.mono HBS.o) HSZ.o).mono ?_;rintro r w2 ⟨rfl,hb2⟩;rw [HP.o];have HB2:=ai (bT HBA.o hb2);have HO2:=ai (own_bel2 (HOX.o.alloc _) hb2);have b2:=(HBB.o.below hb2).cell (j:=0) rfl;clear hb2)
      go_ret2
      exact⟨TyOut.no rfl HG.o,HB0.o.trans (HB2.o.mono HB0.o.size)⟩
   ·have hlti: ¬(k:Int) <q.aggs.length:=by omega
    have hk':k=q.aggs.length:=by omega
    have ho:=HOX.o;rw [hk',List.take_length,atc_icells,←List.flatMap_append]at ho;obtain⟨r,hv,hr1,hr2,hr3⟩:=il_own ho (fun n hn=>by
     rcases List.mem_append.1 hn with hn|hn
     ·exact HOI.o.2 n hn
     ·exact aggsT_64 ts.l q.aggs n hn)
    have HV:=ai hv;have HR1:=ai hr1;have HR2:=ai hr2;have HR3:=ai hr3;have HG:=ai (groupTy_y (ts:=ts.l) (q:=q) HN.o HX.o (aggsE_all (fun j hj=>H0.o j hj (by omega))))
    clear hv hr1 hr2 hr3 ho;go_wp2
    go_ret2
    exact⟨TyOut.yes (o:=r) (by rw [HV.o];rfl) HR2.o (fun hp=>by have:=HR3.o.ge hp;omega) (by rw [HG.o,HR1.o,HO.o]),HB0.o.trans (HB.o.mono HB0.o.size)⟩
end Go.Proofs.YtogalchclmmfgaaDoor

/- A part of the proof of AlgebraMade. -/
import Derived.Test.YtogalchclmmfgaaDoorP18
import Derived.Test.YtogalchclmmfgaaDoorP19
import Derived.Test.YtogalchclmmfgaaDoorP04
import Derived.Test.YtogalchclmmfgaaDoorP05
import Derived.Test.YtogalchclmmfgaaDoorP03
import Derived.Test.YtogalchclmmfgaaDoorP01
import Derived.Test.YtogalchclmmfgaaDoorP11
import Derived.Test.YtogalchclmmfgaaDoorP16
set_option maxRecDepth 100000
set_option maxHeartbeats 16000000
namespace Go.Proofs.YtogalchclmmfgaaDoor
open Go.RowKit
theorem topT_t (ts:List Int) (op typ num:Int) (text:ByteArray) (col:Int) (l:List Int) : (topT ts op typ num text col l).1=0∨isT (topT ts op typ num text col l).1=true:=by
 unfold topT
 split
 ·exact .inl rfl
 split
 ·exact .inl rfl
 split
 ·exact .inl rfl
 split
 ·rename_i h;exact .inr h
 ·exact .inl rfl
theorem ty_t (ts:List Int) (e:Ex) : (e.ty ts).1=0∨isT (e.ty ts).1=true:=by
 cases e with
 | mk op typ num text col kh kids=>
  unfold Ex.ty topF
  split
  ·exact .inl rfl
  ·exact topT_t _ _ _ _ _ _ _
theorem typ2_64 (ts:List Int) (e:Ex) :int64 (e.typ2 ts).1:=by
 have h: (e.typ2 ts).1=0∨isT (e.typ2 ts).1=true:=by
  unfold Ex.typ2
  split
  ·exact .inl rfl
  split
  ·exact .inl rfl
  ·exact ty_t ts e
 rcases h with h|h
 ·rw [h];constructor<;>decide
 ·exact isT_64 h
theorem own_bel2 {w w':World} {base n size:Nat} {e:TypeId} {v:Value} {xs:List Value} (h:w.ownsRow base e size v n xs) (hb:Below w.heap.size w w') :w'.ownsRow base e size v n xs:=h.kept (only_below hb none) (by cases v.ownBlock<;>simp)
theorem grown0 {B:Nat} {a w w':World} {row:Option Nat} (h:Below B a w) (hB:B≤w.heap.size) (hg:w.grownBy w' row) (hr: ∀k,row=some k→B≤k) :Below B a w':=
 h.grown hg hB hr
def OwnIL (B:Nat) (w:World) (o:IL) :Prop:=w.ownsRow B 3 1 (.slice o.h.ao o.l.length o.h.cap) o.l.length (o.l.flatMap icells)
theorem il_own {w:World} {base:Nat} {v:Value} {n:Nat} {xs:List Int} (h:w.ownsRow base 3 1 v n (xs.flatMap icells)) (hw: ∀n∈xs,int64 n) : ∃r:IL,v = .slice r.h.ao r.l.length r.h.cap∧r.l=xs∧r.In w∧OwnIL base w r:=by
 obtain⟨hd,rfl,hr⟩:=own_row (size:=1) (cells:=icells) (fun _=>rfl) (by decide) h
 have hn:n=xs.length:=by
  have:=h.1;rw [flatMap_len (cells:=icells) (size:=1) (fun _=>rfl)]at this
  omega
 subst hn;exact⟨⟨hd,xs⟩,rfl,rfl,⟨hr,hw⟩,h⟩
noncomputable def condE (ts:List Int) (e:Ex) :Int:=if (e.typ2 ts).2≠0 then (e.typ2 ts).2 else if (e.typ2 ts).1≠2 then 4 else 0
noncomputable def colsE (ts:List Int) (l:List Ex) :Int:=firstE (l.map fun e=>(e.typ2 ts).2)
noncomputable def colsT (ts:List Int) (l:List Ex) :List Int:=l.map fun e=>(e.typ2 ts).1
theorem colsE_at {ts:List Int} {l:List Ex} {k:Nat} (hk:k<l.length) (h0: ∀j (hj:j<l.length),j<k→(l[j].typ2 ts).2=0) (hne: (l[k].typ2 ts).2≠0) :colsE ts l= (l[k].typ2 ts).2:=by
 unfold colsE
 have hl:k< (l.map fun e=>(e.typ2 ts).2).length:=by simpa using hk
 have:=firstE_at hl (fun j hj h=>by rw [List.getElem_map];exact h0 j (by simpa using hj) h) (by rw [List.getElem_map];exact hne) []
 rw [List.append_nil,List.getElem_map]at this;exact this
theorem colsE_all {ts:List Int} {l:List Ex} (h0: ∀j (hj:j<l.length),(l[j].typ2 ts).2=0) :colsE ts l=0:=by
 unfold colsE
 have:=firstE_app0 (a:=l.map fun e=>(e.typ2 ts).2) [] (fun e he=>by
  obtain⟨j,hj,rfl⟩:=List.getElem_of_mem he;rw [List.getElem_map];exact h0 j (by simpa using hj))
 rw [List.append_nil]at this;rw [this];rfl
theorem colsT_64 (ts:List Int) (l:List Ex) : ∀n∈colsT ts l,int64 n:=fun n hn=>by
 obtain⟨e,_,rfl⟩:=List.mem_map.1 hn;exact typ2_64 ts e
noncomputable abbrev etc (ts:List Int) (e:Ex) :List Value:= [.int .i64 (e.typ2 ts).1]
theorem etc_icells (ts:List Int) (l:List Ex) :l.flatMap (etc ts) = (colsT ts l).flatMap icells:=by
 induction l with
 | nil=>rfl
 | cons x l ih=>simp [colsT,List.flatMap_cons]at *;exact ih
theorem ccond_any (e:Ex) (ts:IL) (w:World) (hts:ts.In w) (hin:e.In w) (hf:OpsAt w) (hsz:e.size≤1000000) :
  Calls Tryd.prog 64 #[.slice ts.h.ao ts.l.length ts.h.cap,.agg #[.int .i64 e.op,.int .i64 e.typ,.int .i64 e.num,.string e.text,.int .i64 e.col,.slice e.kh.ao e.kids.length e.kh.cap]] w fun r w'=>r = .returned (.int .i64 (condE ts.l e))∧Below w.heap.size w w':=by
 have HB0:=ai (belA (w:=w) (.cells #[.int .i64 e.op,.int .i64 e.typ,.int .i64 e.num,.string e.text,.int .i64 e.col,.slice e.kh.ao e.kids.length e.kh.cap] 45))
 have HIN:=ai hin;have HTS:=ai hts;have HF:=ai hf;clear hf;obtain⟨⟨t,x⟩,hp⟩ : ∃p,e.typ2 ts.l=p:=⟨_,rfl⟩;have HP:=ai hp;have HC:=ai (show condE ts.l e=if x≠0 then x else if t≠2 then 4 else 0 by unfold condE;rw [hp])
 clear hin hts hp;by_cases hx:x=0
 ·subst hx
  by_cases ht:t=2
  ·subst ht
   go_enter Tryd.func64,Tryd.ntmps64;go_wp2_with (go_at_call 49;refine(etype_any HIN.o ts _ (HTS.o.mono HB0.o) (HIN.o.mono HB0.o) (HF.o.mono HB0.o) hsz).mono ?_;rintro r w2 ⟨rfl,hb2⟩;rw [HP.o];have HB2:=ai hb2;clear hb2)
   go_ret
   exact⟨by rw [HC.o];simp,HB0.o.trans (HB2.o.mono HB0.o.size)⟩
  ·have ht2: (t != 2) =true:=bne_iff_ne.2 ht
   go_enter Tryd.func64,Tryd.ntmps64;go_wp2_with (go_at_call 49;refine(etype_any HIN.o ts _ (HTS.o.mono HB0.o) (HIN.o.mono HB0.o) (HF.o.mono HB0.o) hsz).mono ?_;rintro r w2 ⟨rfl,hb2⟩;rw [HP.o];have HB2:=ai hb2;clear hb2)
   go_ret
   exact⟨by rw [HC.o];simp [ht],HB0.o.trans (HB2.o.mono HB0.o.size)⟩
 ·have hx2: (x == 0) =false:=beq_eq_false_iff_ne.2 hx
  have hx3: (x != 0) =true:=bne_iff_ne.2 hx
  go_enter Tryd.func64,Tryd.ntmps64;go_wp2_with (go_at_call 49;refine(etype_any HIN.o ts _ (HTS.o.mono HB0.o) (HIN.o.mono HB0.o) (HF.o.mono HB0.o) hsz).mono ?_;rintro r w2 ⟨rfl,hb2⟩;rw [HP.o];have HB2:=ai hb2;clear hb2)
  go_ret
  exact⟨by rw [HC.o];simp [hx],HB0.o.trans (HB2.o.mono HB0.o.size)⟩
theorem rcond_any (e:Ex) (ts:IL) (w:World) (hts:ts.In w) (hin:e.In w) (hsz:e.size≤1000000) :
  Calls Tryd.prog 73 #[.slice ts.h.ao ts.l.length ts.h.cap,.agg #[.int .i64 e.op,.int .i64 e.typ,.int .i64 e.num,.string e.text,.int .i64 e.col,.slice e.kh.ao e.kids.length e.kh.cap]] w fun r w'=>r = .returned (.int .i64 (condE ts.l e))∧Below w.heap.size w w':=by
 have HB0:=ai (belA (w:=w) (.cells #[.int .i64 e.op,.int .i64 e.typ,.int .i64 e.num,.string e.text,.int .i64 e.col,.slice e.kh.ao e.kids.length e.kh.cap] 45))
 have HIN:=ai hin;have HTS:=ai hts;obtain⟨⟨t,x⟩,hp⟩ : ∃p,e.typ2 ts.l=p:=⟨_,rfl⟩;have HP:=ai hp;have HC:=ai (show condE ts.l e=if x≠0 then x else if t≠2 then 4 else 0 by unfold condE;rw [hp])
 clear hin hts hp;by_cases hx:x=0
 ·subst hx
  by_cases ht:t=2
  ·subst ht
   go_enter Tryd.func73,Tryd.ntmps73;go_wp2_with (go_at_call 56;refine(rtype_any HIN.o ts _ (HTS.o.mono HB0.o) (HIN.o.mono HB0.o) hsz).mono ?_;rintro r w2 ⟨rfl,hb2⟩;rw [HP.o];have HB2:=ai hb2;clear hb2)
   go_ret
   exact⟨by rw [HC.o];simp,HB0.o.trans (HB2.o.mono HB0.o.size)⟩
  ·have ht2: (t != 2) =true:=bne_iff_ne.2 ht
   go_enter Tryd.func73,Tryd.ntmps73;go_wp2_with (go_at_call 56;refine(rtype_any HIN.o ts _ (HTS.o.mono HB0.o) (HIN.o.mono HB0.o) hsz).mono ?_;rintro r w2 ⟨rfl,hb2⟩;rw [HP.o];have HB2:=ai hb2;clear hb2)
   go_ret
   exact⟨by rw [HC.o];simp [ht],HB0.o.trans (HB2.o.mono HB0.o.size)⟩
 ·have hx2: (x == 0) =false:=beq_eq_false_iff_ne.2 hx
  have hx3: (x != 0) =true:=bne_iff_ne.2 hx
  go_enter Tryd.func73,Tryd.ntmps73;go_wp2_with (go_at_call 56;refine(rtype_any HIN.o ts _ (HTS.o.mono HB0.o) (HIN.o.mono HB0.o) hsz).mono ?_;rintro r w2 ⟨rfl,hb2⟩;rw [HP.o];have HB2:=ai hb2;clear hb2)
  go_ret
  exact⟨by rw [HC.o];simp [hx],HB0.o.trans (HB2.o.mono HB0.o.size)⟩
theorem ccols_any (h:Hd) (xs:List Ex) (ts:IL) (w:World) (hts:ts.In w) (hrow:Row w 6 Ex.cells h xs) (hin: ∀e∈xs,e.In w) (hf:OpsAt w) (hsz: ∀e∈xs,e.size≤1000000) (hlen:xs.length≤1000000) :
  Calls Tryd.prog 65 #[.slice ts.h.ao ts.l.length ts.h.cap,.slice h.ao xs.length h.cap] w fun r w'=>
   ((colsE ts.l xs≠0∧r = .returned (.tuple #[.slice none 0 0,.int .i64 (colsE ts.l xs)]))∨(colsE ts.l xs=0∧∃o:IL,r = .returned (.tuple #[.slice o.h.ao o.l.length o.h.cap,.int .i64 0])∧o.l=colsT ts.l xs∧o.In w'∧OwnIL w.heap.size w' o))∧Below w.heap.size w w':=by
 obtain⟨i0,hi,hz0,hz1,hz2⟩:=info_parts info3;have HI:=ai (And.intro hi (And.intro hz0 (And.intro hz1 hz2)));clear hi hz0 hz1 hz2;have hn:=hrow.len;have HROW:=ai hrow;have HIN:=ai hin;have HSZ:=ai hsz;have HTS:=ai hts;have HF:=ai hf;clear hf;clear hin hts hrow hsz
 go_enter Tryd.func65,Tryd.ntmps65;go_wp2;go_loopw [6,13] (fun v i wr=>∃k:Nat,k≤xs.length∧i = .int .i64 k∧Hid (∀j (hj:j<xs.length),j<k→(xs[j].typ2 ts.l).2=0)∧Hid (wr.ownsRow w.heap.size 3 1 v k ((xs.take k).flatMap (etc ts.l)))∧Hid (Below w.heap.size w wr)) (fun _ i _=>xs.length - (intOf i).toNat)
 case atStart=>exact⟨0,Nat.zero_le _,rfl,(fun j hj h=>absurd h (by omega)),World.ownsRow_nil _ _ _ _,Below.refl _ _⟩
 case round=>
  obtain⟨k,hk,rfl,H0,HO,HB⟩:=hrel;by_cases hlt:k<xs.length
  ·have hlti: (k:Int) <xs.length:=by omega
   have HROW2:=ai (HROW.o.mono HB.o);have hix:=HROW2.o.ix hlt Tryd.underlying37 sz41;obtain⟨c0,c1,c2,c3,c4,c5⟩:=ex_at HROW2.o hlt;have hbb:=HROW2.o.blk hlt;have HE:=ai (HIN.o _ (List.getElem_mem hlt));have HES:=ai (HSZ.o _ (List.getElem_mem hlt));obtain⟨⟨t,x⟩,hp⟩ : ∃p,xs[k].typ2 ts.l=p:=⟨_,rfl⟩;have HP:=ai hp;have HT:=ai (show int64 t by have:=typ2_64 ts.l xs[k];rw [hp]at this;exact this)
   clear hp;by_cases hx:x=0
   ·subst hx
    have HBA:=ai (bT HB.o (belA (w:=wr) (.cells #[.int .i64 xs[k].op,.int .i64 xs[k].typ,.int .i64 xs[k].num,.string xs[k].text,.int .i64 xs[k].col,.slice xs[k].kh.ao xs[k].kids.length xs[k].kh.cap] 45)))
    go_wp2_with (first
     | (go_at_call 49;refine(etype_any HE.o ts _ (HTS.o.mono HBA.o) (HE.o.mono HBA.o) (HF.o.mono HBA.o) HES.o).mono ?_;rintro r w2 ⟨rfl,hb2⟩;rw [HP.o];have HB2:=ai (bT HBA.o hb2);have HO2:=ai (own_bel2 (HO.o.alloc (.cells #[.int .i64 xs[k].op,.int .i64 xs[k].typ,.int .i64 xs[k].num,.string xs[k].text,.int .i64 xs[k].col,.slice xs[k].kh.ao xs[k].kids.length xs[k].kh.cap] 45)) hb2);clear hb2)
     | (at_builtin;refine wpList_append_own _ rfl _ _ 22 rfl w.heap.size 3 i0 (.int .i64 0) 1 8 Tryd.underlying22 HI.o.1 HI.o.2.1 HI.o.2.2.1 HI.o.2.2.2 rfl (by decide) _ _ _ rfl (HO2.o.alloc _) ⟨w2.heap.size,0,none⟩ 1 1 [.int .i64 t] rfl rfl (new_cells (l:= [_])) one_int (by unfold maxLen;omega) (by omega) (by have:=HB2.o.size;simp;omega) ?_;intro v' w3 hown' hgrow _;have HOW:=ai hown';have HGW:=ai hgrow;clear hown' hgrow))
    have HO':=ai (own_snoc (cells:=etc ts.l) hlt (by rw [show etc ts.l xs[k] = [.int .i64 t] by show [Value.int .i64 (xs[k].typ2 ts.l).1] =_;rw [HP.o]];exact HOW.o))
    have HG:=HGW;go_wp2;go_roundw
    case rel=>
     refine⟨k+1,by omega,by go_num,(fun j hj h=> ?_),HO'.o,grown1 HB2.o HB2.o.size HG.o (fun b hb=>(HO2.o.lt b hb).1)⟩
     by_cases e:j=k
     ·subst e;rw [HP.o]
     ·exact H0.o j hj (by omega)
    case measure=>simp [intOf];omega
   ·have hx2: (x != 0) =true:=bne_iff_ne.2 hx
    have HX:=ai hx;have HBA:=ai (bT HB.o (belA (w:=wr) (.cells #[.int .i64 xs[k].op,.int .i64 xs[k].typ,.int .i64 xs[k].num,.string xs[k].text,.int .i64 xs[k].col,.slice xs[k].kh.ao xs[k].kids.length xs[k].kh.cap] 45)))
    go_wp2_with (go_at_call 49;refine(etype_any HE.o ts _ (HTS.o.mono HBA.o) (HE.o.mono HBA.o) (HF.o.mono HBA.o) HES.o).mono ?_;rintro r w2 ⟨rfl,hb2⟩;rw [HP.o];have HB2:=ai (bT HBA.o hb2);clear hb2)
    have hc:=colsE_at hlt H0.o (by rw [HP.o];exact HX.o)
    rw [HP.o]at hc;have HCC:=ai hc;clear hc
    go_ret2
    exact⟨.inl ⟨by rw [HCC.o];exact HX.o,by rw [HCC.o];rfl⟩,HB2.o⟩
  ·have hlti: ¬(k:Int) <xs.length:=by omega
   go_wp2
   go_ret2
   have hk':k=xs.length:=by omega
   have ho:=HO.o;rw [hk',List.take_length,etc_icells]at ho;obtain⟨o,hv,ho1,ho2,ho3⟩:=il_own ho (colsT_64 ts.l xs);exact⟨.inr ⟨colsE_all (fun j hj=>H0.o j hj (by omega)),o,by rw [hv];rfl,ho1,ho2,ho3⟩,HB.o⟩
theorem rcols_any (h:Hd) (xs:List Ex) (ts:IL) (w:World) (hts:ts.In w) (hrow:Row w 6 Ex.cells h xs) (hin: ∀e∈xs,e.In w) (hsz: ∀e∈xs,e.size≤1000000) (hlen:xs.length≤1000000) :
  Calls Tryd.prog 74 #[.slice ts.h.ao ts.l.length ts.h.cap,.slice h.ao xs.length h.cap,.slice none 0 0] w fun r w'=>
   ((colsE ts.l xs≠0∧r = .returned (.tuple #[.slice none 0 0,.int .i64 (colsE ts.l xs)]))∨(colsE ts.l xs=0∧∃o:IL,r = .returned (.tuple #[.slice o.h.ao o.l.length o.h.cap,.int .i64 0])∧o.l=colsT ts.l xs∧o.In w'∧OwnIL w.heap.size w' o))∧Below w.heap.size w w':=by
 obtain⟨i0,hi,hz0,hz1,hz2⟩:=info_parts info3;have HI:=ai (And.intro hi (And.intro hz0 (And.intro hz1 hz2)));clear hi hz0 hz1 hz2;have hn:=hrow.len;have HROW:=ai hrow;have HIN:=ai hin;have HSZ:=ai hsz;have HTS:=ai hts;clear hin hts hrow hsz
 go_enter Tryd.func74,Tryd.ntmps74;go_wp2;go_loopw [2,8] (fun v i wr=>∃k:Nat,k≤xs.length∧i = .int .i64 k∧Hid (∀j (hj:j<xs.length),j<k→(xs[j].typ2 ts.l).2=0)∧Hid (wr.ownsRow w.heap.size 3 1 v k ((xs.take k).flatMap (etc ts.l)))∧Hid (Below w.heap.size w wr)) (fun _ i _=>xs.length - (intOf i).toNat)
 case atStart=>exact⟨0,Nat.zero_le _,rfl,(fun j hj h=>absurd h (by omega)),World.ownsRow_nil _ _ _ _,Below.refl _ _⟩
 case round=>
  obtain⟨k,hk,rfl,H0,HO,HB⟩:=hrel;by_cases hlt:k<xs.length
  ·have hlti: (k:Int) <xs.length:=by omega
   have HROW2:=ai (HROW.o.mono HB.o);have hix:=HROW2.o.ix hlt Tryd.underlying37 sz41;obtain⟨c0,c1,c2,c3,c4,c5⟩:=ex_at HROW2.o hlt;have hbb:=HROW2.o.blk hlt;have HE:=ai (HIN.o _ (List.getElem_mem hlt));have HES:=ai (HSZ.o _ (List.getElem_mem hlt));obtain⟨⟨t,x⟩,hp⟩ : ∃p,xs[k].typ2 ts.l=p:=⟨_,rfl⟩;have HP:=ai hp;have HT:=ai (show int64 t by have:=typ2_64 ts.l xs[k];rw [hp]at this;exact this)
   clear hp;by_cases hx:x=0
   ·subst hx
    go_wp2_with (first
     | (go_at_call 56;refine(rtype_any HE.o ts _ (HTS.o.mono HB.o) (HE.o.mono HB.o) HES.o).mono ?_;rintro r w2 ⟨rfl,hb2⟩;rw [HP.o];have HB2:=ai (bT HB.o hb2);have HO2:=ai (own_bel2 (HO.o) hb2);clear hb2)
     | (at_builtin;refine wpList_append_own _ rfl _ _ 22 rfl w.heap.size 3 i0 (.int .i64 0) 1 8 Tryd.underlying22 HI.o.1 HI.o.2.1 HI.o.2.2.1 HI.o.2.2.2 rfl (by decide) _ _ _ rfl (HO2.o.alloc _) ⟨w2.heap.size,0,none⟩ 1 1 [.int .i64 t] rfl rfl (new_cells (l:= [_])) one_int (by unfold maxLen;omega) (by omega) (by have:=HB2.o.size;simp;omega) ?_;intro v' w3 hown' hgrow _;have HOW:=ai hown';have HGW:=ai hgrow;clear hown' hgrow))
    have HO':=ai (own_snoc (cells:=etc ts.l) hlt (by rw [show etc ts.l xs[k] = [.int .i64 t] by show [Value.int .i64 (xs[k].typ2 ts.l).1] =_;rw [HP.o]];exact HOW.o))
    have HG:=HGW;go_wp2;go_roundw
    case rel=>
     refine⟨k+1,by omega,by go_num,(fun j hj h=> ?_),HO'.o,grown1 HB2.o HB2.o.size HG.o (fun b hb=>(HO2.o.lt b hb).1)⟩
     by_cases e:j=k
     ·subst e;rw [HP.o]
     ·exact H0.o j hj (by omega)
    case measure=>simp [intOf];omega
   ·have hx2: (x != 0) =true:=bne_iff_ne.2 hx
    have HX:=ai hx;go_wp2_with (go_at_call 56;refine(rtype_any HE.o ts _ (HTS.o.mono HB.o) (HE.o.mono HB.o) HES.o).mono ?_;rintro r w2 ⟨rfl,hb2⟩;rw [HP.o];have HB2:=ai (bT HB.o hb2);clear hb2)
    have hc:=colsE_at hlt H0.o (by rw [HP.o];exact HX.o)
    rw [HP.o]at hc;have HCC:=ai hc;clear hc
    go_ret2
    exact⟨.inl ⟨by rw [HCC.o];exact HX.o,by rw [HCC.o];rfl⟩,HB2.o⟩
  ·have hlti: ¬(k:Int) <xs.length:=by omega
   go_wp2
   go_ret2
   have hk':k=xs.length:=by omega
   have ho:=HO.o;rw [hk',List.take_length,etc_icells]at ho;obtain⟨o,hv,ho1,ho2,ho3⟩:=il_own ho (colsT_64 ts.l xs);exact⟨.inr ⟨colsE_all (fun j hj=>H0.o j hj (by omega)),o,by rw [hv];rfl,ho1,ho2,ho3⟩,HB.o⟩
end Go.Proofs.YtogalchclmmfgaaDoor
namespace Go.Proofs.YtogalchclmmfgaaDoor
open Go.RowKit
noncomputable def plainB (q:Qu) :Bool:=
 if q.op=1 then cleanB q ⟨#[116,97,98,108,101]⟩
 else if q.op=2 then cleanB q ⟨#[116,121,112,101,115,32,114,111,119,115]⟩
 else if q.op=3 then cleanB q ⟨#[99,111,110,100]⟩
 else if q.op=4 then cleanB q ⟨#[101,120,112,114,115]⟩
 else if q.op=5 then cleanB q ⟨#[107,105,110,100,32,99,111,110,100]⟩
 else if q.op=6∨q.op=7∨q.op=8 then cleanB q ⟨#[97,108,108]⟩
 else if q.op=9 then cleanB q ⟨#[]⟩
 else if q.op=10 then cleanB q ⟨#[101,120,112,114,115,32,97,103,103,115]⟩
 else false
def kidsN (op:Int) :Nat:=if op=1∨op=2 then 0 else if 5≤op∧op≤8 then 2 else 1
noncomputable def aggTy (ts:List Int) (a:Agg) :Int×Int:=
 if a.fn<1∨6<a.fn∨(a.fn=1∧eqb a.arg.er noEx.er=false) then (1,0)
 else if a.fn=1 then (0,1)
 else if (a.arg.typ2 ts).2≠0 then ((a.arg.typ2 ts).2,0)
 else if a.fn=5∨a.fn=6 then (0,(a.arg.typ2 ts).1)
 else if a.fn=4∧(a.arg.typ2 ts).1≠1 then (4,0)
 else (0,1)
noncomputable def aggsE (ts:List Int) (l:List Agg) :Int:=firstE (l.map fun a=>(aggTy ts a).1)
noncomputable def aggsT (ts:List Int) (l:List Agg) :List Int:=l.map fun a=>(aggTy ts a).2
noncomputable def groupTy (ts:List Int) (q:Qu) :Int×List Int:=
 if q.exprs.length+q.aggs.length<1∨24<q.exprs.length+q.aggs.length then (9,[])
 else if colsE ts q.exprs≠0 then (colsE ts q.exprs,[])
 else if aggsE ts q.aggs≠0 then (aggsE ts q.aggs,[])
 else (0,colsT ts q.exprs ++ aggsT ts q.aggs)
noncomputable def joinTy (a b:List Int) (q:Qu) :Int×List Int:=
 if q.kind<1∨6<q.kind then (1,[])
 else if 24<a.length+b.length then (9,[])
 else if condE (a ++ b) q.cond≠0 then (condE (a ++ b) q.cond,[])
 else if q.kind=5∨q.kind=6 then (0,a)
 else (0,a ++ b)
noncomputable def opK (s:Sch) (q:Qu) (T:List (List Int)) :Int×List Int:=
 if q.op=1 then (if fok (named q.table) s.tabs=true then (0,((s.tabs.map fun t=>t.cols.map Col.typ).getD (fi (named q.table) s.tabs).toNat [])) else (11,[]))
 else if q.op=2 then (valsE q,if valsE q=0 then q.types.l else [])
 else if q.op=3 then (condE (T.getD 0 []) q.cond,if condE (T.getD 0 []) q.cond=0 then T.getD 0 [] else [])
 else if q.op=4 then (if q.exprs.length=0∨24<q.exprs.length then (9,[]) else if colsE (T.getD 0 []) q.exprs≠0 then (colsE (T.getD 0 []) q.exprs,[]) else (0,colsT (T.getD 0 []) q.exprs))
 else if q.op=5 then joinTy (T.getD 0 []) (T.getD 1 []) q
 else if q.op=10 then groupTy (T.getD 0 []) q
 else if q.op=9 then (0,T.getD 0 [])
 else if eqb (T.getD 0 []) (T.getD 1 []) =true then (0,T.getD 0 []) else (4,[])
noncomputable def topQ (s:Sch) (q:Qu) (ks:List (Int×List Int)) :Int×List Int:=
 if firstE (ks.map Prod.fst)≠0 then (firstE (ks.map Prod.fst),[])
 else if plainB q=false then (1,[])
 else if ks.length≠kidsN q.op then (9,[])
 else opK s q (ks.map Prod.snd)
mutual
noncomputable def Qu.tq (s:Sch) :Qu→Int×List Int
 | ⟨op,table,kind,all,cond,eh,exprs,ah,aggs,types,rh,rows,qh,kids⟩=>topQ s ⟨op,table,kind,all,cond,eh,exprs,ah,aggs,types,rh,rows,qh,kids⟩ (Qu.tqs s kids)
noncomputable def Qu.tqs (s:Sch) :List Qu→List (Int×List Int)
 | []=> []
 | x :: l=>x.tq s :: Qu.tqs s l
end
theorem Qu.tqs_map (s:Sch) (l:List Qu) :Qu.tqs s l=l.map fun x=>x.tq s:=by
 induction l with
 | nil=>rw [Qu.tqs];rfl
 | cons x l ih=>rw [Qu.tqs,ih];rfl
theorem Qu.tq_eq (s:Sch) (q:Qu) :q.tq s=topQ s q (q.kids.map fun x=>x.tq s):=by
 cases q;rw [Qu.tq,Qu.tqs_map]
theorem tq_kid {s:Sch} {q:Qu} {k:Nat} (hk:k<q.kids.length) (h0: ∀j (hj:j<q.kids.length),j<k→(q.kids[j].tq s).1=0) {v:Int} (hv: (q.kids[k].tq s).1=v) (hne:v≠0) :q.tq s= (v,[]):=by
 rw [Qu.tq_eq];have hl:k< ((q.kids.map fun x=>x.tq s).map Prod.fst).length:=by simpa using hk
 have:=firstE_at hl (fun j hj h=>by rw [List.getElem_map,List.getElem_map];exact h0 j (by simpa using hj) h) (by rw [List.getElem_map,List.getElem_map,hv];exact hne) []
 rw [List.append_nil,List.getElem_map,List.getElem_map,hv]at this
 unfold topQ
 rw [this,if_pos hne]
theorem tq_op {s:Sch} {q:Qu} (h0: ∀j (hj:j<q.kids.length),(q.kids[j].tq s).1=0) {T:List (List Int)} (hT:T=q.kids.map fun x=>(x.tq s).2) :
  q.tq s=if plainB q=false then (1,[]) else if T.length≠kidsN q.op then (9,[]) else opK s q T:=by
 rw [Qu.tq_eq];have:=firstE_app0 (a:=(q.kids.map fun x=>x.tq s).map Prod.fst) [] (fun e he=>by
  obtain⟨j,hj,rfl⟩:=List.getElem_of_mem he;rw [List.getElem_map,List.getElem_map];exact h0 j (by simpa using hj))
 rw [List.append_nil]at this
 unfold topQ
 rw [this,hT];simp only [List.map_map,List.length_map]
 rfl
theorem tq_no {s:Sch} {q:Qu} (h0: ∀j (hj:j<q.kids.length),(q.kids[j].tq s).1=0) (hp:plainB q=false) :q.tq s= (1,[]):=by rw [tq_op h0 rfl,if_pos hp]
theorem tq_ar {s:Sch} {q:Qu} (h0: ∀j (hj:j<q.kids.length),(q.kids[j].tq s).1=0) (hp:plainB q=true) (hk:q.kids.length≠kidsN q.op) :q.tq s= (9,[]):=by rw [tq_op h0 rfl,if_neg (by rw [hp];simp),if_pos (by simpa using hk)]
theorem tq_ok {s:Sch} {q:Qu} (h0: ∀j (hj:j<q.kids.length),(q.kids[j].tq s).1=0) (hp:plainB q=true) (hk:q.kids.length=kidsN q.op) {T:List (List Int)} (hT:T=q.kids.map fun x=>(x.tq s).2) :q.tq s=opK s q T:=by
 rw [tq_op h0 hT,if_neg (by rw [hp];simp),if_neg (by rw [hT];simpa using hk)]
noncomputable def Qu.typeQ (s:Sch) (q:Qu) :Int×List Int:=if 200<q.size then (8,[]) else if 24<q.dep then (13,[]) else q.tq s
def TyOut (P:IL→Prop) (r:Int×List Int) (w':World) (e:Ending) :Prop:=∃o:IL,e = .returned (.tuple #[.slice o.h.ao o.l.length o.h.cap,.int .i64 r.1])∧o.l=r.2∧o.In w'∧(0<o.l.length→P o)
theorem TyOut.no {P:IL→Prop} {n:Int} {w':World} {e:Ending} (h:e = .returned (.tuple #[.slice none 0 0,.int .i64 n])) {r:Int×List Int} (hr:r= (n,[])) :TyOut P r w' e:=by
 subst hr;exact⟨⟨nilHd,[]⟩,h,rfl,⟨Row.nil _ _ _,fun n hn=>by cases hn⟩,fun hp=>absurd hp (by show¬0<0;omega)⟩
theorem TyOut.yes {P:IL→Prop} {r:Int×List Int} {w':World} {e:Ending} {o:IL} (h:e = .returned (.tuple #[.slice o.h.ao o.l.length o.h.cap,.int .i64 0])) (hin:o.In w') (hp:0<o.l.length→P o) (hr:r= (0,o.l)) :TyOut P r w' e:=by
 subst hr;exact⟨o,h,rfl,hin,hp⟩
end Go.Proofs.YtogalchclmmfgaaDoor
namespace Go.Proofs.YtogalchclmmfgaaDoor
open Go.RowKit
theorem ex_le {l:List Ex} {e:Ex} (h:e∈l) :e.size≤Ex.sizes l:=by
 induction l with
 | nil=>cases h
 | cons a l ih=>
  rw [Ex.sizes];rcases List.mem_cons.1 h with rfl|h
  ·omega
  ·have:=ih h;omega
theorem sum_mem {α:Type} (f:α→Nat) {l:List α} {x:α} (h:x∈l) :f x≤(l.map f).sum:=by
 induction l with
 | nil=>cases h
 | cons a l ih=>
  rw [List.map_cons,List.sum_cons];rcases List.mem_cons.1 h with rfl|h
  ·omega
  ·have:=ih h;omega
theorem qu_le {l:List Qu} {x:Qu} (h:x∈l) :x.size≤Qu.sizes l:=by
 induction l with
 | nil=>cases h
 | cons a l ih=>
  rw [Qu.sizes];rcases List.mem_cons.1 h with rfl|h
  ·omega
  ·have:=ih h;omega
theorem qu_len (l:List Qu) :l.length≤Qu.sizes l:=by
 induction l with
 | nil=>exact Nat.zero_le _
 | cons a l ih=>
  have:=Qu.size_eq a;rw [Qu.sizes,List.length_cons];omega
theorem Qu.kid_le {q x:Qu} (h:x∈q.kids) :x.size≤q.size:=by
 have:=qu_le h;rw [Qu.size_eq q];omega
theorem Qu.len_le (q:Qu) :q.kids.length≤q.size:=by
 have:=qu_len q.kids;rw [Qu.size_eq q];omega
theorem Qu.cond_le {q:Qu} (h:q.op=3∨q.op=5) :q.cond.size≤q.size:=by
 have:q.csz=q.cond.size:=by unfold Qu.csz;rw [if_pos h]
 rw [Qu.size_eq q];omega
theorem Qu.expr_le {q:Qu} (h:q.op=4∨q.op=10) {e:Ex} (he:e∈q.exprs) :e.size≤q.size:=by
 have h1:q.esz=Ex.sizes q.exprs:=by unfold Qu.esz;rw [if_pos h]
 have:=ex_le he;rw [Qu.size_eq q];omega
theorem Qu.agg_le {q:Qu} (h:q.op=10) {a:Agg} (ha:a∈q.aggs) (hf:a.fn≠1) :a.arg.size≤q.size:=by
 have h1:q.asz= (q.aggs.map asize).sum:=by unfold Qu.asz;rw [if_pos h]
 have h2:=sum_mem asize ha;have h3:asize a=a.arg.size:=by unfold asize;rw [if_neg hf]
 rw [Qu.size_eq q];omega
structure KT (s:Sch) (q:Qu) (k:Nat) (ks:List IL) :Prop where
 le:k≤q.kids.length
 len:ks.length=k
 no: ∀j (hj:j<q.kids.length),j<k→(q.kids[j].tq s).1=0
 ty:ks.map IL.l= (q.kids.take k).map fun x=>(x.tq s).2
theorem KT.zero (s:Sch) (q:Qu) :KT s q 0 []:=⟨Nat.zero_le _,rfl,fun j _ h=>absurd h (by omega),rfl⟩
theorem KT.snoc {s:Sch} {q:Qu} {k:Nat} {ks:List IL} (h:KT s q k ks) (hk:k<q.kids.length) {o:IL} (h0: (q.kids[k].tq s).1=0) (ho:o.l= (q.kids[k].tq s).2) :KT s q (k+1) (ks ++ [o]):=by
 refine⟨by omega,by rw [List.length_append,h.len];rfl,fun j hj hjk=> ?_,?_⟩
 ·by_cases e:j=k
  ·subst e;exact h0
  ·exact h.no j hj (by omega)
 ·rw [List.map_append,h.ty,List.take_succ_eq_append_getElem hk,List.map_append]
  simp [ho]
theorem KT.all {s:Sch} {q:Qu} {k:Nat} {ks:List IL} (h:KT s q k ks) (hk: ¬k<q.kids.length) : (∀j (hj:j<q.kids.length),(q.kids[j].tq s).1=0)∧ks.map IL.l= (q.kids.map fun x=>(x.tq s).2)∧ks.length=q.kids.length:=by
 have hl:=h.le;refine⟨fun j hj=>h.no j hj (by omega),?_,by rw [h.len];omega⟩
 rw [h.ty,List.take_of_length_le (by omega)]
theorem own_il {w w':World} {base n:Nat} {e:TypeId} {v:Value} {xs:List Value} (h:w.ownsRow base e 1 v n xs) (hb:Below w.heap.size w w') :w'.ownsRow base e 1 v n xs:=own_bel2 h hb
theorem scan_ty {s:Sch} {k:Nat} (hk:k<s.tabs.length) (n:Int) (hn:n=k) : (s.tabs.map fun t=>t.cols.map Col.typ).getD n.toNat [] =s.tabs[k].cols.map Col.typ:=by
 subst hn;have: ((k:Int)).toNat=k:=rfl;rw [this,List.getD_eq_getElem?_getD,List.getElem?_eq_getElem (by simpa using hk)]
 simp
theorem OwnIL.ge {B:Nat} {w:World} {o:IL} (h:OwnIL B w o) (hp:0<o.l.length) :B≤o.h.b:=own_from h hp
theorem il_lt {w:World} {o:IL} (h:o.In w) (hp:0<o.l.length) :o.h.b<w.heap.size:=h.1.blk (i:=0) hp
theorem il_grown {w w':World} {r:Option Nat} {x:IL} (h:x.In w) (hg:w.grownBy w' r) (hne:0<x.l.length→∀g,r=some g→x.h.b≠g) :x.In w':=by
 cases r with
 | none=>exact⟨row_grown h.1 (hg.but (some w.heap.size)) (fun hp=>by have:=il_lt h hp;omega),h.2⟩
 | some g=>exact⟨row_grown h.1 hg (fun hp=>hne hp g rfl),h.2⟩
def FarQ (q:Qu) (w:World) (o:IL) :Prop:=∀u:World,q.In u→u.heap.size≤w.heap.size→o.h.b<u.heap.size∨w.heap.size≤o.h.b
theorem FarQ.new {q:Qu} {w:World} {o:IL} (h:w.heap.size≤o.h.b) :FarQ q w o:=fun _ _ _=>.inr h
structure KO (q:Qu) (w W wr:World) (v:Value) (ks:List IL) :Prop where
 own:wr.ownsRow W.heap.size 22 1 v ks.length (ks.flatMap IL.cells)
 inn: ∀x∈ks,x.In wr
 far: ∀x∈ks,0<x.l.length→FarQ q w x
 off: ∀x∈ks,0<x.l.length→∀g,v.ownBlock=some g→x.h.b≠g
 bel:Below W.heap.size W wr
theorem KO.zero (q:Qu) (w W:World) :KO q w W W (.slice none 0 0) []:=
 ⟨World.ownsRow_nil _ _ _ _,fun x h=>(by cases h),fun x h=>(by cases h),fun x h=>(by cases h),Below.refl _ _⟩
theorem KO.snoc {q:Qu} {w W wr wc w2 w3:World} {v:Value} {ks:List IL} (h:KO q w W wr v ks) (hw:w.heap.size≤W.heap.size) {x:Qu} (hx:x∈q.kids) (hq:q.In W)
  (hc:Below wr.heap.size wr wc) (h2:Below wc.heap.size wc w2) {o:IL} (ho:o.In w2) (hof:0<o.l.length→FarQ x wc o) {lit:Obj} {g cap:Nat}
  (hown:w3.ownsRow W.heap.size 22 1 (.slice (some ⟨g,0,none⟩) (ks.length+1) cap) (ks.length+1) (ks.flatMap IL.cells ++ [.slice o.h.ao o.l.length o.h.cap])) (hg: (w2.alloc lit).grownBy w3 v.ownBlock)
  (hgg:v.ownBlock=some g∨g= (w2.alloc lit).heap.size) :KO q w W w3 (.slice (some ⟨g,0,none⟩) (ks.length+1) cap) (ks ++ [o]):=by
 have hbel:=bT hc (bT h2 (belA lit));have hoff:0<o.l.length→∀g,v.ownBlock=some g→o.h.b≠g:=fun hp g hg=>by
  have h1:=(h.own.lt g hg).1;have h2':=(h.own.lt g hg).2;have h3:=h.bel.size;have h4:=hc.size;rcases hof hp W (hq.kid x hx) (by omega)with h5|h5<;>omega
 have hoin:o.In (w2.alloc lit):=ho.mono (belA lit);have hxin: ∀y∈ks ++ [o],y.In (w2.alloc lit):=fun y hy=>by
  rcases List.mem_append.1 hy with hy|hy
  ·exact(h.inn y hy).mono hbel
  ·rw [List.mem_singleton.1 hy];exact hoin
 have hyoff: ∀y∈ks ++ [o],0<y.l.length→∀g,v.ownBlock=some g→y.h.b≠g:=fun y hy=>by
  rcases List.mem_append.1 hy with hy|hy
  ·exact h.off y hy
  ·rw [List.mem_singleton.1 hy];exact hoff
 refine⟨?_,fun y hy=>il_grown (hxin y hy) hg (hyoff y hy),fun y hy hp=> ?_,fun y hy hp g' hg'=> ?_,?_⟩
 ·rw [List.length_append,List.flatMap_append]
  simpa using hown
 ·rcases List.mem_append.1 hy with hy|hy
  ·exact h.far y hy hp
  ·rw [List.mem_singleton.1 hy]at hp ⊢
   intro u hu hus;have h3:=h.bel.size;have h4:=hc.size;rcases hof hp u (hu.kid x hx) (by omega)with h5|h5
   ·exact .inl h5
   ·exact .inr (by omega)
 ·have:g=g':=by simpa [Value.ownBlock]using hg'
  subst this;rcases hgg with e|e
  ·exact hyoff y hy hp g e
  ·have:=il_lt (hxin y hy) hp
   omega
 ·refine grown0 (h.bel.trans (hbel.mono h.bel.size)) ?_ hg (fun g hg=>(h.own.lt g hg).1)
  have:=h.bel.size;have:=hbel.size;omega
theorem KO.row {q:Qu} {w W wr:World} {v:Value} {ks:List IL} (h:KO q w W wr v ks) : ∃hd:Hd,v = .slice hd.ao ks.length hd.cap∧Row wr 1 IL.cells hd ks:=by
 obtain⟨hd,hv,hr⟩:=own_row (size:=1) (cells:=IL.cells) (fun _=>rfl) (by decide) h.own
 exact⟨hd,hv,hr⟩
theorem fok_at {α:Type} {p:α→Bool} {l:List α} (h:fok p l=true) : ∃k,k<l.length∧fi p l= (k:Int):=by
 unfold fok at h
 cases hf:l.findIdx? p with
 | none=>rw [hf]at h;cases h
 | some k=>
  have:=(List.findIdx?_eq_some_iff_getElem.1 hf).1;refine⟨k,this,?_⟩
  unfold fi
  rw [hf]
  rfl
def TypAt (f:FuncId) (s:Sch) (q:Qu) :Prop:=∀w:World,s.In w→q.In w→FormsAt w→OpsAt w→w.ShapedOpen Tryd.prog→q.size≤1000000→q.wt≤1048576→
  Calls Tryd.prog f #[.agg #[.slice s.th.ao s.tabs.length s.th.cap],.agg #[.int .i64 q.op,.string q.table,.int .i64 q.kind,.bool q.all,.int .i64 q.cond.op,.int .i64 q.cond.typ,.int .i64 q.cond.num,.string q.cond.text,.int .i64 q.cond.col,.slice q.cond.kh.ao q.cond.kids.length q.cond.kh.cap,.slice q.eh.ao q.exprs.length q.eh.cap,.slice q.ah.ao q.aggs.length q.ah.cap,.slice q.types.h.ao q.types.l.length q.types.h.cap,.slice q.rh.ao q.rows.length q.rh.cap,.slice q.qh.ao q.kids.length q.qh.cap]] w fun e w'=>TyOut (FarQ q w) (q.tq s) w' e∧Below w.heap.size w w'
def SchS (s:Sch) :Prop:=∀t∈s.tabs,t.cols.length≤100
end Go.Proofs.YtogalchclmmfgaaDoor
namespace Go.Proofs.YtogalchclmmfgaaDoor
open Go.RowKit
theorem Kept.trans {b g:Nat} {x y z:World} (h:Kept b g x y) (k:Kept b g y z) :Kept b g x z:=
 ⟨fun j hj h1 h2=>(k.1 j (Nat.lt_of_lt_of_le hj h.2) h1 h2).trans (h.1 j hj h1 h2),Nat.le_trans h.2 k.2⟩
theorem Kept.of {b:Nat} {x y:World} (h:x.grownBy y (some b)) :Kept b b x y:=(Kept.refl b b x).grown h
theorem row_kept {α:Type} {w w':World} {size b g:Nat} {cells:α→List Value} {h:Hd} {xs:List α} (hr:Row w size cells h xs) (hk:Kept b g w w') (hb:0<xs.length→h.b≠b) (hg:0<xs.length→h.b≠g) :Row w' size cells h xs:=by
 obtain⟨h1,h2,h3,h4⟩:=hr;refine⟨h1,h2,fun hp=>⟨(h3 hp).1,Nat.lt_of_lt_of_le (h3 hp).2 hk.2⟩,fun i hi j v hv=> ?_⟩
 have hp:0<xs.length:=by omega
 rw [World.cell?_of_block (w:=w) (a:=⟨h.b,_,none⟩) (hk.1 h.b (h3 hp).2 (hb hp) (hg hp))]
 exact h4 i hi j v hv
theorem il_kept2 {w w':World} {b g:Nat} {x:IL} (h:x.In w) (hk:Kept b g w w') (hb:0<x.l.length→x.h.b≠b) (hg:0<x.l.length→x.h.b≠g) :x.In w':=⟨row_kept h.1 hk hb hg,h.2⟩
theorem own_kept {w w':World} {b g B n size:Nat} {e:TypeId} {v:Value} {xs:List Value} (h:w.ownsRow B e size v n xs) (hk:Kept b g w w') (hb:v.ownBlock≠some b) (hg:v.ownBlock≠some g) :w'.ownsRow B e size v n xs:=by
 refine⟨h.1,?_⟩
 rcases h.2 with h1| ⟨k,cap,cur,rfl,h2,h3,h4⟩
 ·exact .inl h1
 ·have hlt:k<w.heap.size:=(Array.getElem?_eq_some_iff.1 h3).1
  exact .inr ⟨k,cap,cur,rfl,h2,(hk.1 k hlt (fun e=>hb (by rw [e];rfl)) (fun e=>hg (by rw [e];rfl))).trans h3,h4⟩
theorem own_next {w w':World} {b B n size:Nat} {e:TypeId} {v:Value} {xs:List Value} (h:w.ownsRow B e size v n xs) (hb:b<B) (hg:w.grownBy w' (some b)) :w'.ownsRow B e size v n xs:=
 own_kept h (Kept.of hg) (fun e=>by have:=(h.lt b e).1;omega) (fun e=>by have:=(h.lt b e).1;omega)
def Kp (b g:Nat) (P:World→Prop) (w:World) :Prop:=∀w',Kept b g w w'→P w'
theorem Kp.next {b g:Nat} {P:World→Prop} {w w':World} (h:Kp b g P w) (hk:Kept b g w w') :Kp b g P w':=fun x hx=>h x (hk.trans hx)
structure Qu.rest (w:World) (q:Qu) :Prop where
 cd:q.cond.In w
 es: ∀e∈q.exprs,e.In w
 ag: ∀a∈q.aggs,int64 a.fn∧a.arg.In w
 rr:Row w 1 VL.cells q.rh q.rows
 rs: ∀r∈q.rows,r.In w
 rk:Row w 15 Qu.cells q.qh q.kids
 ks: ∀k∈q.kids,k.In w
structure Qu.rows3 (B:Nat) (w:World) (q:Qu) :Prop where
 oe:w.ownsRow B 45 6 (.slice q.eh.ao q.exprs.length q.eh.cap) q.exprs.length (q.exprs.flatMap Ex.cells)
 oa:w.ownsRow B 63 7 (.slice q.ah.ao q.aggs.length q.ah.cap) q.aggs.length (q.aggs.flatMap Agg.cells)
 ot:w.ownsRow B 3 1 (.slice q.types.h.ao q.types.l.length q.types.h.cap) q.types.l.length (q.types.l.flatMap icells)
structure QK (b B:Nat) (w:World) (q:Qu) :Prop where
 wf:int64 q.op∧q.table.size≤maxLen∧int64 q.kind∧∀t∈q.types.l,int64 t
 rows:q.rows3 B w
 top: ∀g,(q.eh.ob=some g∨q.ah.ob=some g∨q.types.h.ob=some g)→Kp b g (fun x=>q.rest x) w
 now:Kp b b (fun x=>q.rest x) w
theorem Qu.mk_in {w:World} {B:Nat} {q:Qu} (hw:int64 q.op∧q.table.size≤maxLen∧int64 q.kind∧∀t∈q.types.l,int64 t) (h3:q.rows3 B w) (hr:q.rest w) :q.In w:=
 ⟨q,⟨hw.1,hw.2.1,hw.2.2.1,hr.cd,row_of_own (fun _=>rfl) (by decide) h3.oe,hr.es,row_of_own (fun _=>rfl) (by decide) h3.oa,hr.ag,⟨row_of_own (fun _=>rfl) (by decide) h3.ot,hw.2.2.2⟩,hr.rr,hr.rs⟩,hr.rk,hr.ks⟩
structure SK0 (b:Nat) (s:Sch) (w:World) :Prop where
 kp:Kp b b (fun x=>s.In x) w
 nt:1≤s.tabs.length∧s.tabs.length≤3
 nc: ∀t∈s.tabs,1≤t.cols.length∧t.cols.length≤8
 ct: ∀t∈s.tabs,∀c∈t.cols,isT c.typ=true
 nm: ∀i (h:i<s.tabs.length),fok (named s.tabs[i].name) s.tabs=true∧fi (named s.tabs[i].name) s.tabs= (i:Int)
structure QM (b:Nat) (s:Sch) (w w':World) (q:Qu) (o:IL) (N:Nat) :Prop where
 qk:QK b w.heap.size w' q
 oin:o.In w'
 ofr:0<o.l.length→w.heap.size≤o.h.b
 ole:o.l.length≤8
 oty: ∀t∈o.l,isT t=true
 sz:q.size≤N
 wt:q.wt≤N
 mq: (q.tq s).1=0→(q.tq s).2=o.l
def QueryAt (n N:Nat) (d:Int) :Prop:=∀(w:World) (b a:Nat) (L:IL) (s:Sch),SK0 b s w→TapeIn w b L a→a+n≤4611686018427370000→
  Calls Tryd.prog 13 #[.pointer (some ⟨b,0,none⟩),.agg #[.slice s.th.ao s.tabs.length s.th.cap],.int .i64 d] w fun e w'=>(∃(q:Qu) (o:IL),e = .returned (.tuple #[.agg q.cells.toArray,.slice o.h.ao o.l.length o.h.cap])∧QM b s w w' q o N)∧(∃a',a≤a'∧a'≤a+n∧TapeIn w' b L a')∧w.grownBy w' (some b)
end Go.Proofs.YtogalchclmmfgaaDoor

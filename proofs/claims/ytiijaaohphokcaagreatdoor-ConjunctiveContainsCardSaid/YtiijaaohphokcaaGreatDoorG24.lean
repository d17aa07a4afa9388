/- querylabfield.of: the columns with a type. -/
import Derived.Test.YtiijaaohphokcaaGreatDoorG23
set_option maxRecDepth 100000
set_option maxHeartbeats 16000000
namespace Go.Proofs.YtiijaaohphokcaaGreatDoor
open Go.RowKit
def OfPost (M:IL) (typ:Int) (w:World) (e:Ending) (w':World) :Prop:=∃(l:List Nat) (r:IL),e = .returned (.slice r.h.ao r.l.length r.h.cap)∧r.l=l.map Int.ofNat∧(∀j∈l,∃h:j<M.l.length,M.l[j] =typ)∧r.In w'∧(0<r.l.length→w.heap.size≤r.h.b)∧Below w.heap.size w w'
theorem of_any (M:IL) (typ:Int) (w:World) (hM:M.In w) (hs:M.l.length≤1000) :
  Calls Tryz.prog 81 #[.slice M.h.ao M.l.length M.h.cap,.int .i64 typ] w (OfPost M typ w):=by
 have HM:=ai hM;have hmn:=hM.1.len;obtain⟨i0,hi,hz0,hz1,hz2⟩:=info_parts info_int;clear hM
 go_enter Tryz.func81,Tryz.ntmps81;go_wp2;go_loopw [5,10] (fun v i wr=>∃(k:Nat) (l:List Nat),k≤M.l.length∧i = .int .i64 k∧Hid (wr.ownsRow w.heap.size 3 1 v l.length (nats l))∧Hid (Below w.heap.size w wr)∧Hid (∀j∈l,∃h:j<M.l.length,M.l[j] =typ)∧Hid (l.length≤k)) (fun _ i _=>M.l.length - (intOf i).toNat)
 case atStart=>exact⟨0,[],Nat.zero_le _,rfl,World.ownsRow_nil _ _ _ _,Below.refl _ _,fun j h=>absurd h List.not_mem_nil,Nat.le_refl _⟩
 case round=>
  obtain⟨k,l,hk,rfl,HO,HB,HL,HLK⟩:=hrel;by_cases hlt:k<M.l.length
  ·have hr:=(HM.o.1.mono HB.o)
   have hix:=hr.ix hlt Tryz.underlying22 szil;have c0:wr.cell? ⟨M.h.b,M.h.o+k,none⟩ =some (.int .i64 (M.l[k]'hlt)):=int_at hr hlt;have hbk:=hr.blk hlt;have HLT:=ai hlt;obtain⟨x,hx⟩ : ∃x,M.l[k]'hlt=x:=⟨_,rfl⟩;have HX:=ai hx;rw [hx]at c0;clear hx hr;by_cases he:x=typ
   ·have hb: (x == typ) =true:=beq_iff_eq.2 he
    have HSN:=ai (show∀j∈l ++ [k],∃h:j<M.l.length,M.l[j] =typ from fun j hj=>by
     rcases List.mem_append.1 hj with hj|hj
     ·exact HL.o j hj
     ·rw [List.mem_singleton.1 hj];exact⟨HLT.o,HX.o.trans he⟩)
    have hll:=HLK.o;clear he;go_wp2_with (at_builtin;refine wpList_append_own _ rfl _ _ 22 rfl w.heap.size 3 i0 (.int .i64 0) 1 8 Tryz.underlying22 hi hz0 hz1 hz2 rfl (by decide) _ _ _ rfl (HO.o.alloc _) ⟨wr.heap.size,0,none⟩ 1 1 [.int .i64 (k:Nat)] rfl rfl ?c1 ?c2 ?c3 ?c4 ?c5 ?_)
    case c1=>exact new_cells (l:= [_])
    case c2=>exact one_int
    case c3=>unfold maxLen;omega
    case c4=>omega
    case c5=>have:=HB.o.size;simp;omega
    intro v' w1 hown' hgrow _;have HO2:=ai (show w1.ownsRow w.heap.size 3 1 v' (l ++ [k]).length (nats (l ++ [k]))from by rw [nats_snoc,List.length_append];exact hown')
    have HG:=ai (grown1 HB.o HB.o.size hgrow (fun b hb=>(HO.o.lt b hb).1))
    clear hown' hgrow hll;go_wp2;go_roundw
    case rel=>exact⟨k+1,_,HLT.o,by go_num,HO2.o,HG.o,HSN.o,by rw [List.length_append];exact Nat.add_le_add_right HLK.o 1⟩
    case measure=>have:=HLT.o;simp [intOf];omega
   ·have hb: (x == typ) =false:=beq_eq_false_iff_ne.2 he
    clear he;go_wp2;go_roundw
    case rel=>exact⟨k+1,l,HLT.o,by go_num,HO.o,HB.o,HL.o,Nat.le_succ_of_le HLK.o⟩
    case measure=>have:=HLT.o;simp [intOf];omega
  ·obtain⟨r,hv,hr,hin,hb⟩:=own_nats HO.o (fun x hx=>by obtain⟨h,_⟩:=HL.o x hx;omega)
   have HR:=ai hr;have HI:=ai hin;have HBB:=ai hb;clear hr hin hb;go_wp2;go_ret
   exact⟨l,r,congrArg Ending.returned hv,HR.o,HL.o,HI.o,HBB.o,HB.o⟩
end Go.Proofs.YtiijaaohphokcaaGreatDoor
/- querylabfield.slot. -/
namespace Go.Proofs.YtiijaaohphokcaaGreatDoor
open Go.RowKit
structure TS (w0:World) (B b:Nat) (L:IL) (a pb:Nat) (ts:List Int) (lv:Value) (z:World) :Prop where
 gb:w0.grownBy z (some b)
 le:w0.heap.size≤B
 ll:b<w0.heap.size∧(0<L.l.length→L.h.b<w0.heap.size)
 tp:TapeIn z b L a
 bx:Box z pb #[lv] 22
 lo:B≤pb
 own:z.ownsRow B 3 1 lv ts.length (ts.flatMap icells)
 ty: ∀t∈ts,t=1∨t=3
section
variable {w0 z z':World} {B b a a' pb:Nat} {L:IL} {ts:List Int} {lv:Value}
theorem TS.own_ne (h:TS w0 B b L a pb ts lv z) {c:Nat} {T:TypeId} (ht:TyAt z c T) (hne:3≠T) :lv.ownBlock≠some c:=fun e=>(TyAt.own h.own e).ne ht hne rfl
theorem TS.own_b (h:TS w0 B b L a pb ts lv z) :lv.ownBlock≠some b:=fun e=>by have:=(h.own.lt b e).1;have:=h.ll;have:=h.le;omega
theorem TS.next (h:TS w0 B b L a pb ts lv z) (hg:z.grownBy z' (some b)) (ht:TapeIn z' b L a') :TS w0 B b L a' pb ts lv z':=by
 have h1:=h.ll;have h2:=h.le;have h3:=h.lo
 exact⟨h.gb.trans hg,h.le,h.ll,ht,h.bx.grown hg (by intro e;injection e with e;omega),h.lo,h.own.kept hg (.inr h.own_b),h.ty⟩
theorem TS.below (h:TS w0 B b L a pb ts lv z) (hb:Below z.heap.size z z') :TS w0 B b L a pb ts lv z':=h.next (only_below hb _) (h.tp.mono hb)
theorem TS.other (h:TS w0 B b L a pb ts lv z) {c:Nat} (hg:z.grownBy z' (some c)) (hc:B≤c) (hp:pb≠c) (ho:lv.ownBlock≠some c) :TS w0 B b L a pb ts lv z':=by
 have h1:=h.ll;have h2:=h.le
 exact⟨h.gb.andThen hg (fun j e=>by injection e with e;left;omega),h.le,h.ll,tz2 h.tp hg h1 (by omega),h.bx.grown hg (by intro e;injection e with e;exact hp e),h.lo,h.own.kept hg (.inr ho),h.ty⟩
theorem TS.il (h:TS w0 B b L a pb ts lv z) : ∃hd:Hd,lv = .slice hd.ao ts.length hd.cap∧IL.In z ⟨hd,ts⟩:=by
 obtain⟨hd,hv,hr⟩:=own_row (size:=1) (cells:=icells) (fun _=>rfl) (by decide) h.own
 exact⟨hd,hv,hr,fun n hn=>by rcases h.ty n hn with rfl|rfl<;>(constructor<;>decide)⟩
theorem TS.il' (h:TS w0 B b L a pb ts lv z) {hd:Hd} (e:lv = .slice hd.ao ts.length hd.cap) :IL.In z ⟨hd,ts⟩:=by
 obtain⟨⟨ao2,c2⟩,e2,hin⟩:=h.il;obtain⟨ao,c⟩:=hd;rw [e]at e2;injection e2 with e3 _ e4;have e3:ao=ao2:=e3;have e4:c=c2:=e4;rw [e3,e4];exact hin
theorem TS.push (h:TS w0 B b L a pb ts lv z) {t:Int} {v2:Value} (ht:t=1∨t=3) (hg:z.grownBy z' lv.ownBlock) (ho:z'.ownsRow B 3 1 v2 (ts.length+1) (ts.flatMap icells ++ icells t)) :TS w0 B b L a pb (ts ++ [t]) v2 (z'.setCell ⟨pb,0,none⟩ v2):=by
 have h1:=h.ll;have h2:=h.le;have h3:=h.lo
 have hob: ∀j,lv.ownBlock=some j→B≤j:=fun j e=>(h.own.lt j e).1
 have hbx:=h.bx.grown hg (fun e=>h.own_ne (TyAt.box h.bx) (by decide) e.symm)
 have hs:=gb_set z' pb 0 v2;have htp:TapeIn z' b L a:=by
  cases hlv:lv.ownBlock with
  | none=>rw [hlv]at hg;exact h.tp.mono ⟨hg.os,hg.tape,hg.output,hg.size,fun i hi=>hg.block i hi (by simp)⟩
  | some j=>rw [hlv]at hg;exact tz2 h.tp hg h1 (by have:=hob j hlv;omega)
 refine⟨(h.gb.andThen hg (fun j e=>.inl (Nat.le_trans h2 (hob j e)))).andThen hs (fun j e=>by injection e with e;left;omega),h.le,h.ll,tz2 htp hs h1 (by omega),?_,h.lo,?_,fun t' ht'=> ?_⟩
 ·have:=hbx.set 0 v2
  simpa only [List.setIfInBounds_toArray,List.set_cons_zero]using this
 ·have e: (ts ++ [t]).flatMap icells=ts.flatMap icells ++ icells t:=by rw [List.flatMap_append,List.flatMap_cons,List.flatMap_nil,List.append_nil]
  rw [e,List.length_append];exact ho.kept hs (.inr (fun e=>(TyAt.own ho e).ne (TyAt.box hbx) (by decide) rfl))
 ·rcases List.mem_append.1 ht' with ht'|ht'
  ·exact h.ty t' ht'
  ·rw [List.mem_singleton.1 ht'];exact ht
end
def KeptT (z z':World) (b pb:Nat) (lv:Value) :Prop:=∀g,g<z.heap.size→g≠b→g≠pb→lv.ownBlock≠some g→z'.heap[g]? = z.heap[g]?
def FreshV (z:World) (lv lv':Value) :Prop:=∀j,lv'.ownBlock=some j→lv.ownBlock=some j∨z.heap.size≤j
def SlotPost (w0:World) (B b:Nat) (L:IL) (a pb:Nat) (ts:List Int) (lv:Value) (typ:Int) (z:World) (e:Ending) (w':World) :Prop:=
 ∃(t:Tm V) (ts':List Int) (lv':Value) (a':Nat),e = .returned (.agg #[.int .i64 t.nr,.int .i64 t.val.kind,.int .i64 t.val.num,.string t.val.text])∧TS w0 B b L a' pb ts' lv' w'∧a'≤a+3∧(ts'=ts∨(ts'=ts ++ [typ]∧t = .v ts.length))∧SlotOk ts'.length (fun n=>ts'.getD n 0) t typ∧t.wf∧KeptT z w' b pb lv∧z.heap.size≤w'.heap.size
theorem kept_gb {z z':World} {b pb:Nat} {lv:Value} {row:Option Nat} (h:z.grownBy z' row) (hr: ∀j,row=some j→j=b∨j=pb∨lv.ownBlock=some j∨z.heap.size≤j) :KeptT z z' b pb lv:=fun g hg h1 h2 h3=>h.block g hg (fun e=>by
 rcases hr g e.symm with h|h|h|h
 ·exact h1 h
 ·exact h2 h
 ·exact h3 h
 ·omega)
theorem KeptT.andThen {z y x:World} {b pb:Nat} {lv:Value} (h:KeptT z y b pb lv) (hs:z.heap.size≤y.heap.size) {row:Option Nat} (k:y.grownBy x row) (hr: ∀j,row=some j→j=b∨j=pb∨lv.ownBlock=some j∨z.heap.size≤j) :KeptT z x b pb lv:=fun g hg h1 h2 h3=>(k.block g (Nat.lt_of_lt_of_le hg hs) (fun e=>by
 rcases hr g e.symm with h|h|h|h
 ·exact h1 h
 ·exact h2 h
 ·exact h3 h
 ·omega)).trans (h g hg h1 h2 h3)
end Go.Proofs.YtiijaaohphokcaaGreatDoor
/- querylabfield.slot: its walk. -/
namespace Go.Proofs.YtiijaaohphokcaaGreatDoor
open Go.RowKit
theorem slot_any (w0:World) (B b:Nat) (L:IL) (a pb:Nat) (ts:List Int) (lv:Value) (typ:Int) (w:World) (hT:TS w0 B b L a pb ts lv w) (hty:typ=1∨typ=3) (ha:a≤4611686018427387000) (hts:ts.length≤900) :
  Calls Tryz.prog 40 #[.pointer (some ⟨b,0,none⟩),.int .i64 typ,.pointer (some ⟨pb,0,none⟩)] w (SlotPost w0 B b L a pb ts lv typ w):=by
 have hll:=hT.ll;have hle:=hT.le;have hlo:=hT.lo;have hpl:=hT.bx.lt;obtain⟨X,hX⟩ : ∃X,w.alloc (.cells #[.int .i64 0,.int .i64 0,.int .i64 0,.string ⟨#[]⟩] 83) =X:=⟨_,rfl⟩;have HWX:=ai (box1X hX).2;have HBX:=ai (box1X hX).1;have HTX:=ai (hT.below HWX.o);have HKX:=ai (show KeptT w X b pb lv from kept_gb (only_below HWX.o none) (fun j e=>by cases e))
 have h6:int64 (6:Int):=by constructor<;>decide
 have h3:int64 (3:Int):=by constructor<;>decide
 have hpa:=pos_le L a;have hpa1:=pos_le L (posAt L a);have hpa2:=pos_le L (posAt L (posAt L a));obtain⟨m0,hm0⟩ : ∃m,nAt L a 6=m:=⟨_,rfl⟩;have HM0:=ai hm0;have HTW:=ai hT;clear hT hm0;by_cases h5:m0=5
 ·have hb5: (m0 == 5) =true:=beq_iff_eq.2 h5
  clear h5
  go_enter Tryz.func40,Tryz.ntmps40;go_upto_region 1 with fail
  try rw [hX]
  clear hX;go_wp2_with (first
   | (go_at_call 10;refine(n_any _ b a L 6 HTX.o.tp (by omega) h6).mono ?_;rintro e y ⟨rfl,h1,h2⟩;rw [HM0.o];have HTY:=ai (HTX.o.next h2 h1);have HKY:=ai (HKX.o.andThen HWX.o.size h2 (fun j e=>.inl (by injection e with e;exact e.symm)));have HBY:=ai (HBX.o.grown h2 (by intro e;injection e with e;omega));have HSY:=ai (Nat.le_trans HWX.o.size h2.size);clear h1 h2)
   | (go_at_call 52;refine(value_any typ hty _ b _ L HTY.o.tp (by omega)).mono ?_;rintro e z ⟨k,rfl,hk,⟨a',ha',h1⟩,h2⟩;have HNV:=ai hk;have HAP:=ai ha';have HTZ:=ai (HTY.o.next h2 h1);have HKZ:=ai (HKY.o.andThen HSY.o h2 (fun j e=>.inl (by injection e with e;exact e.symm)));have HBF:=ai (HBY.o.grown h2 (by intro e;injection e with e;omega));have HSZ:=ai (Nat.le_trans HSY.o h2.size);clear h1 h2 hk ha';have r0:z.cell? ⟨w.heap.size,0,none⟩ =some (.int .i64 0):=HBF.o.cell rfl;have r1:z.cell? ⟨w.heap.size,1,none⟩ =some (.int .i64 0):=HBF.o.cell rfl;have r2:z.cell? ⟨w.heap.size,2,none⟩ =some (.int .i64 0):=HBF.o.cell rfl;have r3:z.cell? ⟨w.heap.size,3,none⟩ =some (.string ⟨#[]⟩):=HBF.o.cell rfl;have f0:=HBF.o.fr 0;have f1:=HBF.o.fr 1;have f2:=HBF.o.fr 2;have f3:=HBF.o.fr 3))
  have HS4:=ai (set4 z w.heap.size (.int .i64 (-1)) (.int .i64 k.kind) (.int .i64 k.num) (.string k.text));have HF:SlotPost w0 B b L a pb ts lv typ w (.returned (.agg #[.int .i64 (-1),.int .i64 k.kind,.int .i64 k.num,.string k.text])) ((((z.setCell ⟨w.heap.size,0,none⟩ (.int .i64 (-1))).setCell ⟨w.heap.size,1,none⟩ (.int .i64 k.kind)).setCell ⟨w.heap.size,2,none⟩ (.int .i64 k.num)).setCell ⟨w.heap.size,3,none⟩ (.string k.text)):=by
   refine⟨.c k,ts,lv,_,rfl,HTZ.o.other HS4.o (by omega) (by omega) (HTZ.o.own_ne (TyAt.box HBF.o) (by decide)),by have:=HAP.o;omega,.inl rfl,⟨HNV.o.2.1,HNV.o.1⟩,HNV.o.2.2,(HKZ.o).andThen HSZ.o HS4.o (fun j e=>by injection e with e;right;right;right;omega),Nat.le_trans HSZ.o HS4.o.size⟩
  refine bodyPost_ret (v:=.agg #[.int .i64 (-1),.int .i64 k.kind,.int .i64 k.num,.string k.text]) ?_ ?_ ?_
  case refine_3=>exact HF
  case refine_2=>rfl
  simp [results,Tryz.results40,go_sem,r0,r1,r2,r3]
 ·have hb5: (m0 == 5) =false:=beq_eq_false_iff_ne.2 h5
  clear h5;obtain⟨hd,hlv,_⟩:=HTW.o.il;have HLV:=ai hlv;clear hlv
  go_enter Tryz.func40,Tryz.ntmps40;go_upto_region 1 with fail
  try rw [hX]
  clear hX;go_upto_region 4 with(first
   | (go_at_call 10;refine(n_any _ b a L 6 HTX.o.tp (by omega) h6).mono ?_;rintro e y ⟨rfl,h1,h2⟩;rw [HM0.o];have HTY:=ai (HTX.o.next h2 h1);have HKY:=ai (HKX.o.andThen HWX.o.size h2 (fun j e=>.inl (by injection e with e;exact e.symm)));have HBY:=ai (HBX.o.grown h2 (by intro e;injection e with e;omega));have HSY:=ai (Nat.le_trans HWX.o.size h2.size);have y0:y.cell? ⟨pb,0,none⟩ =some (.slice hd.ao ts.length hd.cap):=by rw [←HLV.o];exact HTY.o.bx.cell rfl)
   | (go_at_call 81;refine(of_any ⟨hd,ts⟩ typ _ (HTY.o.il' HLV.o) (by show ts.length≤1000;omega)).mono ?_;rintro e z ⟨l,r,rfl,hrl,hel,hri,hrb,hz⟩;have HRL:=ai hrl;have HEL:=ai hel;have HRI:=ai hri;have HRB:=ai hrb;have HTZ:=ai (HTY.o.below hz);have HKZ:=ai (HKY.o.andThen HSY.o (only_below hz none) (fun j e=>by cases e));have HBZ:=ai (HBY.o.below hz);have HSZ0:=ai (Nat.le_trans HSY.o hz.size);have HYZ:=ai hz.size;clear hz hrl hel hri hrb))
  clear y0;have hrn:=HRI.o.1.len;obtain⟨m1,hm1⟩ : ∃m,nAt L (posAt L a) 3=m:=⟨_,rfl⟩;have HM1:=ai hm1;clear hm1;by_cases hp:0<r.l.length
  ·have hpi: (0:Int) <r.l.length:=by omega
   have h64r:int64 (r.l.length:Int):=by constructor<;>omega
   by_cases hm:0<m1
   ·have hn:=fmod_ok (x:=rawAt L (posAt L (posAt L a))) (n:=(r.l.length:Int)) (by omega)
    obtain⟨k,hk,hkn⟩ : ∃k:Nat,k<r.l.length∧nAt L (posAt L (posAt L a)) r.l.length=k:=⟨(nAt L (posAt L (posAt L a)) r.l.length).toNat,by unfold nAt;omega,by unfold nAt;omega⟩
    have HKN:=ai hkn;have HKR:=ai (show∃j:Nat,r.l[k] = (j:Int)∧∃h:j<ts.length,ts[j] =typ from by
     have hk2:k<l.length:=by have:=congrArg List.length HRL.o;rw [List.length_map]at this;omega
     refine⟨l[k],?_,HEL.o _ (List.getElem_mem hk2)⟩
     have:r.l[k] = (l.map Int.ofNat)[k]'(by rw [List.length_map];exact hk2):=by simp only [HRL.o]
     rw [this,List.getElem_map];rfl)
    obtain⟨j,hj,hjl⟩:=HKR.o;have HJL:=ai hjl;clear hn hkn HKR hjl;go_wp2_with (first
     | (go_at_call 10;refine(n_any _ b _ L 3 HTZ.o.tp (by omega) h3).mono ?_;rintro e y2 ⟨rfl,h1,h2⟩;rw [HM1.o];have HT2:=ai (HTZ.o.next h2 h1);have HK2:=ai (HKZ.o.andThen HSZ0.o h2 (fun j e=>.inl (by injection e with e;exact e.symm)));have HB2:=ai (HBZ.o.grown h2 (by intro e;injection e with e;omega));have HS2:=ai (Nat.le_trans HSZ0.o h2.size);have HR2:=ai (il_grown HRI.o h2 (fun hp=>by have:=HRB.o hp;have:=HTY.o.tp.lt;omega));clear h1 h2)
     | (go_at_call 10;refine(n_any _ b _ L r.l.length HT2.o.tp (by omega) h64r).mono ?_;rintro e y3 ⟨rfl,h1,h2⟩;rw [HKN.o];have HT3:=ai (HT2.o.next h2 h1);have HK3:=ai (HK2.o.andThen HS2.o h2 (fun j e=>.inl (by injection e with e;exact e.symm)));have HBF:=ai (HB2.o.grown h2 (by intro e;injection e with e;omega));have HS3:=ai (Nat.le_trans HS2.o h2.size);have hr3:=(il_grown HR2.o h2 (fun hp=>by have:=HRB.o hp;have:=HTY.o.tp.lt;omega)).1;have hix:=hr3.ix hk Tryz.underlying22 szil;have c0:y3.cell? ⟨r.h.b,r.h.o+k,none⟩ =some (.int .i64 (r.l[k]'hk)):=int_at hr3 hk;rw [hj]at c0;have hbk:=hr3.blk hk;clear h1 h2 hr3;have r0:y3.cell? ⟨w.heap.size,0,none⟩ =some (.int .i64 0):=HBF.o.cell rfl;have r1:y3.cell? ⟨w.heap.size,1,none⟩ =some (.int .i64 0):=HBF.o.cell rfl;have r2:y3.cell? ⟨w.heap.size,2,none⟩ =some (.int .i64 0):=HBF.o.cell rfl;have r3:y3.cell? ⟨w.heap.size,3,none⟩ =some (.string ⟨#[]⟩):=HBF.o.cell rfl;have f0:=HBF.o.fr 0;have f1:=HBF.o.fr 1;have f2:=HBF.o.fr 2;have f3:=HBF.o.fr 3))
    have HS4:=ai (set4 y3 w.heap.size (.int .i64 (j:Nat)) (.int .i64 0) (.int .i64 0) (.string ⟨#[]⟩));have HF:SlotPost w0 B b L a pb ts lv typ w (.returned (.agg #[.int .i64 (j:Nat),.int .i64 0,.int .i64 0,.string ⟨#[]⟩])) ((((y3.setCell ⟨w.heap.size,0,none⟩ (.int .i64 (j:Nat))).setCell ⟨w.heap.size,1,none⟩ (.int .i64 0)).setCell ⟨w.heap.size,2,none⟩ (.int .i64 0)).setCell ⟨w.heap.size,3,none⟩ (.string ⟨#[]⟩)):=by
     refine⟨.v j,ts,lv,_,rfl,HT3.o.other HS4.o (by omega) (by omega) (HT3.o.own_ne (TyAt.box HBF.o) (by decide)),by omega,.inl rfl,(by obtain⟨h1,h2⟩:=HJL.o;exact⟨h1,by show ts.getD j 0=typ;rw [List.getD_eq_getElem?_getD,List.getElem?_eq_getElem h1];exact h2⟩),(by obtain⟨h1,h2⟩:=HJL.o;show j≤1000;omega),(HK3.o).andThen HS3.o HS4.o (fun j e=>by injection e with e;right;right;right;omega),Nat.le_trans HS3.o HS4.o.size⟩
    refine bodyPost_ret (v:=.agg #[.int .i64 (j:Nat),.int .i64 0,.int .i64 0,.string ⟨#[]⟩]) ?_ ?_ ?_
    case refine_3=>exact HF
    case refine_2=>rfl
    simp [results,Tryz.results40,go_sem,r0,r1,r2,r3]
   ·have hmb: (decide (0<m1)) =false:=decide_eq_false hm
    go_upto_region 6 with(go_at_call 10;refine(n_any _ b _ L 3 HTZ.o.tp (by omega) h3).mono ?_;rintro e y2 ⟨rfl,h1,h2⟩;rw [HM1.o];have HT2:=ai (HTZ.o.next h2 h1);have HK2:=ai (HKZ.o.andThen HSZ0.o h2 (fun j e=>.inl (by injection e with e;exact e.symm)));have HB2:=ai (HBZ.o.grown h2 (by intro e;injection e with e;omega));have HS2:=ai (Nat.le_trans HSZ0.o h2.size);clear h1 h2)
    obtain⟨i0,hi,hz0,hz1,hz2⟩:=info_parts info_int;have p0:y2.cell? ⟨pb,0,none⟩ =some lv:=HT2.o.bx.cell rfl;have hpw:=HT2.o.bx.lt;go_wp2_with (at_builtin;refine wpList_append_own _ rfl _ _ 22 rfl B 3 i0 (.int .i64 0) 1 8 Tryz.underlying22 hi hz0 hz1 hz2 rfl (by decide) _ _ _ rfl (HT2.o.own.alloc _) ⟨y2.heap.size,0,none⟩ 1 1 [.int .i64 typ] rfl rfl ?c1 ?c2 ?c3 ?c4 ?c5 ?_)
    (first| (case c1=>exact new_cells (l:= [_])) |skip)
    case c2=>first|exact one_int|rfl
    case c3=>unfold maxLen;omega
    case c4=>omega
    case c5=>have h1:=HT2.o.lo;simp;omega
    intro v2 z2 hown hgrow _;obtain⟨g4,cap4,rfl⟩:=ownsRow_succ hown;have HTA:=ai (HT2.o.below (belA (w:=y2) (.cells #[.int .i64 typ] 3)))
    have hbx2:=HTA.o.bx.grown hgrow (fun e=>HTA.o.own_ne (TyAt.box HTA.o.bx) (by decide) e.symm)
    have HBX2:=ai hbx2;have q0:z2.cell? ⟨pb,0,none⟩ =some lv:=hbx2.cell rfl;have qf:=hbx2.fr 0;have HT5:=ai (HTA.o.push hty hgrow hown);have HK5:=ai (show KeptT w (z2.setCell ⟨pb,0,none⟩ (.slice (some ⟨g4,0,none⟩) (ts.length+1) cap4)) b pb lv from(((HK2.o).andThen HS2.o (only_below (belA (w:=y2) (.cells #[.int .i64 typ] 3)) none) (fun j e=>by cases e)).andThen (Nat.le_trans HS2.o (by simp)) hgrow (fun j e=>.inr (.inr (.inl e)))).andThen (Nat.le_trans HS2.o (Nat.le_trans (by simp) hgrow.size)) (gb_set _ _ _ _) (fun j e=>by injection e with e;exact .inr (.inl e.symm)))
    have HSZ:=ai (show w.heap.size≤(z2.setCell ⟨pb,0,none⟩ (.slice (some ⟨g4,0,none⟩) (ts.length+1) cap4)).heap.size from Nat.le_trans HS2.o (Nat.le_trans (by simp) (Nat.le_trans hgrow.size (gb_set _ _ _ _).size)))
    have HBG:=ai ((HB2.o.below (belA (w:=y2) (.cells #[.int .i64 typ] 3))).grown hgrow (fun e=>HTA.o.own_ne (TyAt.box (HB2.o.below (belA (w:=y2) (.cells #[.int .i64 typ] 3)))) (by decide) e.symm))
    have HBF:=ai (HBG.o.grown (gb_set z2 pb 0 (.slice (some ⟨g4,0,none⟩) (ts.length+1) cap4)) (by intro e;injection e with e;omega))
    clear hown hgrow hi hz0 hz1 hz2 hbx2 p0;go_upto_region 7 with fail
    generalize z2.setCell ⟨pb,0,none⟩ (.slice (some ⟨g4,0,none⟩) (ts.length+1) cap4) =Z5 at *;clear q0 qf;have q0:Z5.cell? ⟨pb,0,none⟩ =some (.slice (some ⟨g4,0,none⟩) (ts.length+1) cap4):=HT5.o.bx.cell rfl;have r0:Z5.cell? ⟨w.heap.size,0,none⟩ =some (.int .i64 0):=HBF.o.cell rfl;have r1:Z5.cell? ⟨w.heap.size,1,none⟩ =some (.int .i64 0):=HBF.o.cell rfl;have r2:Z5.cell? ⟨w.heap.size,2,none⟩ =some (.int .i64 0):=HBF.o.cell rfl;have r3:Z5.cell? ⟨w.heap.size,3,none⟩ =some (.string ⟨#[]⟩):=HBF.o.cell rfl;have f0:=HBF.o.fr 0;have f1:=HBF.o.fr 1;have f2:=HBF.o.fr 2;have f3:=HBF.o.fr 3;have htl:IntKind.i64.wrap (((ts.length+1:Nat) :Int) - 1) = (ts.length:Int):=by rw [IntKind.wrap_i64];omega
    have htl2: ((ts.length+1:Nat) :Int) - 1= (ts.length:Int):=by omega
    go_wp2;have HS4:=ai (set4 Z5 w.heap.size (.int .i64 (ts.length:Nat)) (.int .i64 0) (.int .i64 0) (.string ⟨#[]⟩));have HF:SlotPost w0 B b L a pb ts lv typ w (.returned (.agg #[.int .i64 (ts.length:Nat),.int .i64 0,.int .i64 0,.string ⟨#[]⟩])) ((((Z5.setCell ⟨w.heap.size,0,none⟩ (.int .i64 (ts.length:Nat))).setCell ⟨w.heap.size,1,none⟩ (.int .i64 0)).setCell ⟨w.heap.size,2,none⟩ (.int .i64 0)).setCell ⟨w.heap.size,3,none⟩ (.string ⟨#[]⟩)):=by
     refine⟨.v ts.length,ts ++ [typ],_,_,rfl,HT5.o.other HS4.o (by omega) (by omega) (HT5.o.own_ne (TyAt.box HBF.o) (by decide)),by omega,.inr ⟨rfl,rfl⟩,⟨by rw [List.length_append];exact Nat.lt_succ_self _,by show(ts ++ [typ]).getD ts.length 0=typ;simp [List.getD]⟩,(by show ts.length≤1000;omega),(HK5.o).andThen HSZ.o HS4.o (fun j e=>by injection e with e;right;right;right;omega),Nat.le_trans HSZ.o HS4.o.size⟩
    refine bodyPost_ret (v:=.agg #[.int .i64 (ts.length:Nat),.int .i64 0,.int .i64 0,.string ⟨#[]⟩]) ?_ ?_ ?_
    case refine_3=>exact HF
    case refine_2=>rfl
    simp [results,Tryz.results40,go_sem,r0,r1,r2,r3]
  ·have hpi: ¬(0:Int) <r.l.length:=by omega
   go_upto_region 6 with fail
   obtain⟨i0,hi,hz0,hz1,hz2⟩:=info_parts info_int;have p0:z.cell? ⟨pb,0,none⟩ =some lv:=HTZ.o.bx.cell rfl;have hpw:=HTZ.o.bx.lt;go_wp2_with (at_builtin;refine wpList_append_own _ rfl _ _ 22 rfl B 3 i0 (.int .i64 0) 1 8 Tryz.underlying22 hi hz0 hz1 hz2 rfl (by decide) _ _ _ rfl (HTZ.o.own.alloc _) ⟨z.heap.size,0,none⟩ 1 1 [.int .i64 typ] rfl rfl ?c1 ?c2 ?c3 ?c4 ?c5 ?_)
   (first| (case c1=>exact new_cells (l:= [_])) |skip)
   case c2=>first|exact one_int|rfl
   case c3=>unfold maxLen;omega
   case c4=>omega
   case c5=>have h1:=HTZ.o.lo;simp;omega
   intro v2 z2 hown hgrow _;obtain⟨g4,cap4,rfl⟩:=ownsRow_succ hown;have HTA:=ai (HTZ.o.below (belA (w:=z) (.cells #[.int .i64 typ] 3)))
   have hbx2:=HTA.o.bx.grown hgrow (fun e=>HTA.o.own_ne (TyAt.box HTA.o.bx) (by decide) e.symm)
   have HBX2:=ai hbx2;have q0:z2.cell? ⟨pb,0,none⟩ =some lv:=hbx2.cell rfl;have qf:=hbx2.fr 0;have HT5:=ai (HTA.o.push hty hgrow hown);have HK5:=ai (show KeptT w (z2.setCell ⟨pb,0,none⟩ (.slice (some ⟨g4,0,none⟩) (ts.length+1) cap4)) b pb lv from(((HKZ.o).andThen HSZ0.o (only_below (belA (w:=z) (.cells #[.int .i64 typ] 3)) none) (fun j e=>by cases e)).andThen (Nat.le_trans HSZ0.o (by simp)) hgrow (fun j e=>.inr (.inr (.inl e)))).andThen (Nat.le_trans HSZ0.o (Nat.le_trans (by simp) hgrow.size)) (gb_set _ _ _ _) (fun j e=>by injection e with e;exact .inr (.inl e.symm)))
   have HSZ:=ai (show w.heap.size≤(z2.setCell ⟨pb,0,none⟩ (.slice (some ⟨g4,0,none⟩) (ts.length+1) cap4)).heap.size from Nat.le_trans HSZ0.o (Nat.le_trans (by simp) (Nat.le_trans hgrow.size (gb_set _ _ _ _).size)))
   have HBG:=ai ((HBZ.o.below (belA (w:=z) (.cells #[.int .i64 typ] 3))).grown hgrow (fun e=>HTA.o.own_ne (TyAt.box (HBZ.o.below (belA (w:=z) (.cells #[.int .i64 typ] 3)))) (by decide) e.symm))
   have HBF:=ai (HBG.o.grown (gb_set z2 pb 0 (.slice (some ⟨g4,0,none⟩) (ts.length+1) cap4)) (by intro e;injection e with e;omega))
   clear hown hgrow hi hz0 hz1 hz2 hbx2 p0;go_upto_region 7 with fail
   generalize z2.setCell ⟨pb,0,none⟩ (.slice (some ⟨g4,0,none⟩) (ts.length+1) cap4) =Z5 at *;clear q0 qf;have q0:Z5.cell? ⟨pb,0,none⟩ =some (.slice (some ⟨g4,0,none⟩) (ts.length+1) cap4):=HT5.o.bx.cell rfl;have r0:Z5.cell? ⟨w.heap.size,0,none⟩ =some (.int .i64 0):=HBF.o.cell rfl;have r1:Z5.cell? ⟨w.heap.size,1,none⟩ =some (.int .i64 0):=HBF.o.cell rfl;have r2:Z5.cell? ⟨w.heap.size,2,none⟩ =some (.int .i64 0):=HBF.o.cell rfl;have r3:Z5.cell? ⟨w.heap.size,3,none⟩ =some (.string ⟨#[]⟩):=HBF.o.cell rfl;have f0:=HBF.o.fr 0;have f1:=HBF.o.fr 1;have f2:=HBF.o.fr 2;have f3:=HBF.o.fr 3;have htl:IntKind.i64.wrap (((ts.length+1:Nat) :Int) - 1) = (ts.length:Int):=by rw [IntKind.wrap_i64];omega
   have htl2: ((ts.length+1:Nat) :Int) - 1= (ts.length:Int):=by omega
   go_wp2;have HS4:=ai (set4 Z5 w.heap.size (.int .i64 (ts.length:Nat)) (.int .i64 0) (.int .i64 0) (.string ⟨#[]⟩));have HF:SlotPost w0 B b L a pb ts lv typ w (.returned (.agg #[.int .i64 (ts.length:Nat),.int .i64 0,.int .i64 0,.string ⟨#[]⟩])) ((((Z5.setCell ⟨w.heap.size,0,none⟩ (.int .i64 (ts.length:Nat))).setCell ⟨w.heap.size,1,none⟩ (.int .i64 0)).setCell ⟨w.heap.size,2,none⟩ (.int .i64 0)).setCell ⟨w.heap.size,3,none⟩ (.string ⟨#[]⟩)):=by
    refine⟨.v ts.length,ts ++ [typ],_,_,rfl,HT5.o.other HS4.o (by omega) (by omega) (HT5.o.own_ne (TyAt.box HBF.o) (by decide)),by omega,.inr ⟨rfl,rfl⟩,⟨by rw [List.length_append];exact Nat.lt_succ_self _,by show(ts ++ [typ]).getD ts.length 0=typ;simp [List.getD]⟩,(by show ts.length≤1000;omega),(HK5.o).andThen HSZ.o HS4.o (fun j e=>by injection e with e;right;right;right;omega),Nat.le_trans HSZ.o HS4.o.size⟩
   refine bodyPost_ret (v:=.agg #[.int .i64 (ts.length:Nat),.int .i64 0,.int .i64 0,.string ⟨#[]⟩]) ?_ ?_ ?_
   case refine_3=>exact HF
   case refine_2=>rfl
   simp [results,Tryz.results40,go_sem,r0,r1,r2,r3]
end Go.Proofs.YtiijaaohphokcaaGreatDoor

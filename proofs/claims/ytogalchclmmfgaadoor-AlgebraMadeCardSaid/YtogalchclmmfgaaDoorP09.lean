/- A part of the proof of AlgebraMade. -/
import Derived.Test.YtogalchclmmfgaaDoorP06
import Derived.Test.YtogalchclmmfgaaDoorP08
import Derived.Test.YtogalchclmmfgaaDoorP05
import Derived.Deep.RegionHeld3
import Derived.Deep.RegionLaw
set_option maxRecDepth 100000
set_option maxHeartbeats 16000000
namespace Go.Proofs.YtogalchclmmfgaaDoor
open Go.RowKit
theorem szval: (Tryd.prog.info? 98).map (·.size) =some 3:=by kernel_rfl
theorem tz2 {w w':World} {b a B c:Nat} {L:IL} (h:TapeIn w b L a) (hg:w.grownBy w' (some c)) (hB:b<B∧(0<L.l.length→L.h.b<B)) (hc:B≤c) :TapeIn w' b L a:=
 ⟨by rw [World.cell?_of_block (hg.block b h.lt (by simp;omega))];exact h.lst,by rw [World.cell?_of_block (hg.block b h.lt (by simp;omega))];exact h.pos,by rw [World.frozen?_of_block (hg.block b h.lt (by simp;omega))];exact h.fr,⟨row_grown h.row.1 hg (fun hp=>by have:=hB.2 hp;omega),h.row.2⟩,h.ne⟩
theorem TapeIn.low {w:World} {b a:Nat} {L:IL} (h:TapeIn w b L a) :b<w.heap.size∧(0<L.l.length→L.h.b<w.heap.size):=⟨h.lt,fun hp=>h.row.1.blk hp⟩
theorem values_bool (w:World) :
  Calls Tryd.prog 90 #[.int .i64 2] w fun e w'=>(∃l:VL,e = .returned (.slice l.h.ao l.l.length l.h.cap)∧l.In w'∧(l.l.length=3∧∀v∈l.l,v.kind=0∨v.kind=2)∧w.heap.size≤l.h.b)∧Below w.heap.size w w':=by
 obtain⟨i0,hi,hz0,hz1,hz2⟩:=info_parts info_v;have HI:=ai (And.intro hi (And.intro hz0 (And.intro hz1 hz2)));clear hi hz0 hz1 hz2;have HB0:=ai (belA (w:=w) (.cells #[.int .i64 0,.int .i64 0,.string ⟨#[]⟩] 98))
 have HL:=ai (show(w.alloc (.cells #[.int .i64 0,.int .i64 0,.string ⟨#[]⟩] 98)).ownsRow w.heap.size 98 3 (.slice (some ⟨w.heap.size,0,none⟩) 1 1) 1 [.int .i64 0,.int .i64 0,.string ⟨#[]⟩]from World.ownsRow_lit (base:=w.heap.size) (e:=98) (size:=3) w #[.int .i64 0,.int .i64 0,.string ⟨#[]⟩] 1 (Nat.le_refl _) (by decide) rfl)
 go_enter Tryd.func90,Tryd.ntmps90;go_wp2_with (first
  | (go_at_call 108;refine(bool_any _ (by decide) _).mono ?_;first| (have hh:=HB1.o;rintro e w2 ⟨rfl,hb2⟩;have HB2:=ai (bT hh hb2);clear hb2 hh;have hs2:=HB2.o.size;simp only [World.size_alloc]at hs2;have HO:=ai ((HL.o.kept (only_below HB2.o none) (.inr (by simp [Value.ownBlock]))).alloc (.cells #[.int .i64 2,.int .i64 0,.string ⟨#[]⟩,.int .i64 2,.int .i64 1,.string ⟨#[]⟩] 98))) | (rintro e w1 ⟨rfl,hb1⟩;have HB1:=ai hb1;clear hb1))
  | (at_builtin;go_loud (refine wpList_append_lies _ rfl _ _ 79 rfl w.heap.size 98 i0 _ 3 32 Tryd.underlying79 HI.o.1 HI.o.2.1 HI.o.2.2.1 HI.o.2.2.2 rfl (by decide) (.slice (some ⟨w.heap.size,0,none⟩) 1 1) 1 [.int .i64 0,.int .i64 0,.string ⟨#[]⟩] (by rfl) HO.o ⟨w2.heap.size,0,none⟩ 2 2 [.int .i64 2,.int .i64 0,.string ⟨#[]⟩,.int .i64 2,.int .i64 1,.string ⟨#[]⟩] (by rfl) (by rfl) new_cells (by intro u hu;simp only [List.mem_cons,List.not_mem_nil,or_false]at hu;rcases hu with rfl|rfl|rfl|rfl|rfl|rfl<;>rfl) (by decide) (by decide) (by decide) (by simp;omega) (w2.heap.size+1) (by simp) ?_;intro g cap w3 hown hgr hat hlt)))
 obtain⟨l,hv,hin,hll,hlb⟩:=vl_of_own (vs:= [nullV,⟨2,0,⟨#[]⟩⟩,⟨2,1,⟨#[]⟩⟩]) hown (by
  intro x hx;simp only [List.mem_cons,List.not_mem_nil,or_false]at hx;rcases hx with rfl|rfl|rfl
  all_goals exact⟨by constructor<;>decide,by constructor<;>decide,by decide⟩) (by decide)
 have HIN:=ai hin;have HLL:=ai (show l.l.length=3∧∀v∈l.l,v.kind=0∨v.kind=2 from⟨by rw [hll];rfl,by rw [hll];decide⟩)
 have HLB:=ai hlb;have HV:=ai hv;clear hin hll hlb hv;go_ret
 exact⟨⟨l,congrArg Ending.returned HV.o,HIN.o,HLL.o,HLB.o⟩,grown1 (HB0.o.trans (HB2.o.mono HB0.o.size)) (by omega) hgr (fun k hk=>by simp [Value.ownBlock]at hk;omega)⟩
theorem values_any (k:Int) (hk:isT k=true) (w:World) :
  Calls Tryd.prog 90 #[.int .i64 k] w fun e w'=>(∃l:VL,e = .returned (.slice l.h.ao l.l.length l.h.cap)∧l.In w'∧(0<l.l.length∧∀v∈l.l,v.kind=0∨v.kind=k)∧l.l.length≤13∧w.heap.size≤l.h.b)∧Below w.heap.size w w':=by
 have h3:=isT_ne hk;have hc:k=1∨k=2∨k=3:=by omega
 rcases hc with rfl|rfl|rfl
 ·exact(values_int w).mono fun e w' ⟨⟨l,h1,h2,⟨h3,hk3⟩,h4⟩,hb⟩=>⟨⟨l,h1,h2,⟨by omega,hk3⟩,by omega,h4⟩,hb⟩
 ·exact(values_bool w).mono fun e w' ⟨⟨l,h1,h2,⟨h3,hk3⟩,h4⟩,hb⟩=>⟨⟨l,h1,h2,⟨by omega,hk3⟩,by omega,h4⟩,hb⟩
 ·exact(values_txt w).mono fun e w' ⟨⟨l,h1,h2,⟨h3,hk3⟩,h4⟩,hb⟩=>⟨⟨l,h1,h2,⟨by omega,hk3⟩,by omega,h4⟩,hb⟩
theorem value_any (w:World) (b a:Nat) (L:IL) (k:Int) (hk:isT k=true) (ht:TapeIn w b L a) (ha:a≤4611686018427387000) :
  Calls Tryd.prog 57 #[.pointer (some ⟨b,0,none⟩),.int .i64 k,.bool true] w fun e w'=>(∃v:V,(v.wf∧(v.kind=0∨v.kind=k))∧e = .returned (.agg #[.int .i64 v.kind,.int .i64 v.num,.string v.text]))∧TapeIn w' b L (a+1)∧w.grownBy w' (some b):=by
 have hbl:=ht.lt;have HLW:=ai ht.low;have HB0:=ai (belA (w:=w) (.cells #[.int .i64 0,.int .i64 0,.string ⟨#[]⟩] 98))
 have HK:=ai (Box.new w #[.int .i64 0,.int .i64 0,.string ⟨#[]⟩] 98);have HT:=ai (ht.mono HB0.o);clear ht
 go_enter Tryd.func57,Tryd.ntmps57;go_wp2_with (first
  | (go_at_call 90;refine(values_any k hk _).mono ?_;rintro e w1 ⟨⟨l,rfl,hin,⟨h0,hkd⟩,h13,hlb⟩,hb1⟩;have HKD:=ai hkd;have HB1:=ai hb1;clear hkd;simp only [World.size_alloc]at hlb;have HIN:=ai hin;clear hin hb1)
  | (go_at_call 10;refine(next_any _ b a L l.l.length (HT.o.mono HB1.o) (by omega) (by omega) ⟨by omega,by omega⟩).mono ?_;rintro e w2 ⟨rfl,ht2,hg2⟩;have HT2:=ai ht2;have HG2:=ai hg2;obtain⟨n,hn⟩ : ∃n:Nat,L.next a l.l.length=n:=⟨(L.next a l.l.length).toNat,by have:=(L.next_ok a (n:=(l.l.length:Int)) (by omega)).1;omega⟩;have hnl:n<l.l.length:=(by have:=(L.next_ok a (n:=(l.l.length:Int)) (by omega)).2;omega);rw [hn];clear hn;have hrow:=row_grown HIN.o.1 hg2 (fun _=>by omega);have hix:=hrow.ix hnl Tryd.underlying79 szval;obtain⟨d0,d1,d2⟩:=val_at hrow hnl;have hbk:=hrow.blk hnl;have HW:=ai (And.intro (HIN.o.2 _ (List.getElem_mem hnl)) (HKD.o _ (List.getElem_mem hnl)));obtain⟨v,hv⟩ : ∃v,l.l[n] =v:=⟨_,rfl⟩;rw [hv]at d0 d1 d2 HW;clear hv;have hkb:=(HK.o.below HB1.o).grown hg2 (by simp;omega);have e0:=hkb.cell (j:=0) rfl;have e1:=hkb.cell (j:=1) rfl;have e2:=hkb.cell (j:=2) rfl;have f0:=hkb.fr 0;have f1:=hkb.fr 1;have f2:=hkb.fr 2;clear hrow ht2 hg2 hkb))
 have h01:w.grownBy w1 (some b):=only_below (HB0.o.trans (HB1.o.mono HB0.o.size)) _;have h02:w.grownBy w2 (some b):=h01.trans HG2.o;exact bodyPost_ret (v:=.agg #[.int .i64 v.kind,.int .i64 v.num,.string v.text]) (by simp [results,Tryd.results57,go_sem,e0,e1,e2]) rfl
  ⟨⟨v,HW.o,rfl⟩,tz2 (tz2 (tz2 HT2.o (gb_set _ _ _ _) HLW.o (Nat.le_refl _)) (gb_set _ _ _ _) HLW.o (Nat.le_refl _)) (gb_set _ _ _ _) HLW.o (Nat.le_refl _),gb_then (gb_then (gb_then h02 (gb_set _ _ _ _) (Nat.le_refl _)) (gb_set _ _ _ _) (Nat.le_refl _)) (gb_set _ _ _ _) (Nat.le_refl _)⟩
end Go.Proofs.YtogalchclmmfgaaDoor
namespace Go.Proofs.YtogalchclmmfgaaDoor
open Go.RowKit
inductive Ex.Fresh (B:Nat) :Ex→Prop where
 | mk (e:Ex) (hb:0<e.kids.length→B≤e.kh.b) (hk: ∀k∈e.kids,Ex.Fresh B k) :Ex.Fresh B e
theorem Ex.Fresh.mono {B B':Nat} {e:Ex} (h:e.Fresh B) (hb:B'≤B) :e.Fresh B':=by
 induction h with
 | mk e h1 _ ih=>exact⟨e,fun hp=>Nat.le_trans hb (h1 hp),ih⟩
theorem Ex.In.grown {w w':World} {B c:Nat} {e:Ex} (h:e.In w) (hf:e.Fresh B) (hg:w.grownBy w' (some c)) (hc:c<B) :e.In w':=by
 induction h with
 | mk e hw hr hk ih=>
  cases hf with
  | mk _ hb hk'=>exact⟨e,hw,row_grown hr hg (fun hp=>by have:=hb hp;omega),fun k hkk=>ih k hkk (hk' k hkk)⟩
theorem topT_res {ts:List Int} {op typ num:Int} {text:ByteArray} {col:Int} {l:List Int} (h: (topT ts op typ num text col l).2=0) : (topT ts op typ num text col l).1=resE ts op typ col l:=by
 unfold topT at h ⊢
 split at h
 ·exact absurd h (by decide)
 split at h
 ·exact absurd h (by decide)
 split at h
 ·exact absurd h (by decide)
 split at h
 ·rename_i h1 h2 h3 h4
  rw [if_neg h1,if_neg h2,if_neg h3,if_pos h4]
 ·exact absurd h (by decide)
theorem ty_res {ts:List Int} {op typ num:Int} {text:ByteArray} {col:Int} {kh:Hd} {kids:List Ex} (h: (Ex.ty ts ⟨op,typ,num,text,col,kh,kids⟩).2=0) :
  (Ex.ty ts ⟨op,typ,num,text,col,kh,kids⟩).1=resE ts op typ col (kids.map fun x=>(x.ty ts).1)∧isT (Ex.ty ts ⟨op,typ,num,text,col,kh,kids⟩).1=true∧∀x∈kids,(x.ty ts).2=0:=by
 rw [Ex.ty_eq]at h ⊢
 unfold topF at h ⊢
 cases hf: (kids.map (Ex.ty ts)).find? (fun p=>p.2 != 0)with
 | some p=>
  rw [hf]at h;have:=List.find?_some hf
  dsimp only at h
  rw [h]at this;exact absurd this (by decide)
 | none=>
  rw [hf]at h
  dsimp only at h ⊢
  have hz:=List.find?_eq_none.1 hf;refine⟨?_,topT_ok h,fun x hx=> ?_⟩
  ·rw [topT_res h,List.map_map]
   rfl
  ·have:=hz _ (List.mem_map_of_mem hx)
   simpa using this
def TyK (ts:List Int) (k:Int) (e:Ex) :Prop:=(e.ty ts).2=0→(e.ty ts).1=k
theorem TyK.typ2 {ts:List Int} {k:Int} {e:Ex} (h:TyK ts k e) : (e.typ2 ts).2=0→(e.typ2 ts).1=k:=by
 unfold Ex.typ2
 split
 ·intro h2;exact absurd h2 (by decide)
 split
 ·intro h2;exact absurd h2 (by decide)
 ·exact h
def ExOut (ts:List Int) (k:Int) (w w':World) (b a n N:Nat) (L:IL) (r:Ending) :Prop:=
 (∃e:Ex,r = .returned (.agg #[.int .i64 e.op,.int .i64 e.typ,.int .i64 e.num,.string e.text,.int .i64 e.col,.slice e.kh.ao e.kids.length e.kh.cap])∧e.In w'∧e.Fresh w.heap.size∧e.size≤N∧TyK ts k e)∧(∃a',a≤a'∧a'≤a+n∧TapeIn w' b L a')∧w.grownBy w' (some b)
abbrev leafEx (op typ num:Int) (text:ByteArray) (col:Int) :Ex:=⟨op,typ,num,text,col,nilHd,[]⟩
theorem leaf_in {op typ num:Int} {text:ByteArray} {col:Int} (h1:int64 op) (h2:int64 typ) (h3:int64 num) (h4:text.size≤maxLen) (h5:int64 col) (w:World) : (leafEx op typ num text col).In w:=
 ⟨_,⟨h1,h2,h3,h4,h5⟩,Row.nil _ _ _,fun k hk=>by cases hk⟩
theorem leaf_fresh (op typ num:Int) (text:ByteArray) (col:Int) (B:Nat) : (leafEx op typ num text col).Fresh B:=⟨_,fun h=>absurd h (by show¬0<0;omega),fun k hk=>by cases hk⟩
theorem leaf_size (op typ num:Int) (text:ByteArray) (col:Int) : (leafEx op typ num text col).size=1:=by rw [Ex.size_eq];simp [Ex.sizes]
theorem z64:int64 0:=by constructor<;>decide
theorem tyk_leaf {ts:List Int} {k op typ num:Int} {text:ByteArray} {col:Int} (h:resE ts op typ col [] =k) :TyK ts k (leafEx op typ num text col):=fun h0=>by
 rw [(ty_res h0).1];exact h
theorem const_any (v:V) (hv:v.wf) (k:Int) (hk:int64 k) (hvk:v.kind=0∨v.kind=k) (w:World) :
  Calls Tryd.prog 78 #[.agg #[.int .i64 v.kind,.int .i64 v.num,.string v.text],.int .i64 k] w fun r w'=>
   (∃(op typ num:Int) (text:ByteArray),r = .returned (.agg #[.int .i64 op,.int .i64 typ,.int .i64 num,.string text,.int .i64 0,.slice none 0 0])∧(∀u,(leafEx op typ num text 0).In u)∧(∀ts,TyK ts k (leafEx op typ num text 0)))∧Below w.heap.size w w':=by
 obtain⟨kd,n,s⟩:=v;obtain⟨h1,h2,h3⟩:=hv
 dsimp only at *
 have HN:=ai h2;have HT:=ai h3;have HK:=ai hk;have HVK:=ai hvk;clear h1 h2 h3 hk hvk;by_cases c1:kd=1
 ·subst c1
  go_enter Tryd.func78,Tryd.ntmps78;go_wp2;exact bodyPost_ret (v:=.agg #[.int .i64 2,.int .i64 0,.int .i64 n,.string ⟨#[]⟩,.int .i64 0,.slice none 0 0]) (by simp [results,Tryd.results78,go_sem]) rfl ⟨⟨2,0,n,⟨#[]⟩,rfl,fun u=>leaf_in (by constructor<;>decide) z64 HN.o (by show(0:Nat)≤maxLen;omega) z64 u,fun ts=>tyk_leaf (by have:=HVK.o;show(1:Int) =k;omega)⟩,belAA _ _⟩
 by_cases c2:kd=2
 ·subst c2
  go_enter Tryd.func78,Tryd.ntmps78;go_wp2;exact bodyPost_ret (v:=.agg #[.int .i64 3,.int .i64 0,.int .i64 n,.string ⟨#[]⟩,.int .i64 0,.slice none 0 0]) (by simp [results,Tryd.results78,go_sem]) rfl ⟨⟨3,0,n,⟨#[]⟩,rfl,fun u=>leaf_in (by constructor<;>decide) z64 HN.o (by show(0:Nat)≤maxLen;omega) z64 u,fun ts=>tyk_leaf (by have:=HVK.o;show(2:Int) =k;omega)⟩,belAA _ _⟩
 by_cases c3:kd=3
 ·subst c3
  go_enter Tryd.func78,Tryd.ntmps78;go_wp2;exact bodyPost_ret (v:=.agg #[.int .i64 4,.int .i64 0,.int .i64 0,.string s,.int .i64 0,.slice none 0 0]) (by simp [results,Tryd.results78,go_sem]) rfl ⟨⟨4,0,0,s,rfl,fun u=>leaf_in (by constructor<;>decide) z64 z64 HT.o z64 u,fun ts=>tyk_leaf (by have:=HVK.o;show(3:Int) =k;omega)⟩,belAA _ _⟩
 ·have b1: (kd == 1) =false:=beq_eq_false_iff_ne.2 c1
  have b2: (kd == 2) =false:=beq_eq_false_iff_ne.2 c2;have b3: (kd == 3) =false:=beq_eq_false_iff_ne.2 c3
  go_enter Tryd.func78,Tryd.ntmps78;go_wp2;exact bodyPost_ret (v:=.agg #[.int .i64 1,.int .i64 k,.int .i64 0,.string ⟨#[]⟩,.int .i64 0,.slice none 0 0]) (by simp [results,Tryd.results78,go_sem]) rfl ⟨⟨1,k,0,⟨#[]⟩,rfl,fun u=>leaf_in (by constructor<;>decide) HK.o z64 (by show(0:Nat)≤maxLen;omega) z64 u,fun ts=>tyk_leaf rfl⟩,belAA _ _⟩
theorem il_mk2 {w:World} {base:Nat} {v:Value} {n:Nat} {xs:List Int} {e:TypeId} (h:w.ownsRow base e 1 v n (xs.flatMap icells)) (hw: ∀n∈xs,int64 n) : ∃r:IL,v = .slice r.h.ao r.l.length r.h.cap∧r.l=xs∧r.In w∧(0<r.l.length→base≤r.h.b):=by
 obtain⟨hd,rfl,hr⟩:=own_row (size:=1) (cells:=icells) (fun _=>rfl) (by decide) h
 refine⟨⟨hd,xs⟩,rfl,rfl,⟨hr,hw⟩,fun hp=> ?_⟩
 have hn:n=xs.length:=by
  have:=h.1;rw [flatMap_len (cells:=icells) (size:=1) (fun _=>rfl)]at this
  omega
 subst hn;exact own_from h hp
theorem set6b (w:World) (g:Nat) (a b c d e f:Value) :w.grownBy ((((((w.setCell ⟨g,0,none⟩ a).setCell ⟨g,1,none⟩ b).setCell ⟨g,2,none⟩ c).setCell ⟨g,3,none⟩ d).setCell ⟨g,4,none⟩ e).setCell ⟨g,5,none⟩ f) (some g):=set6 w g a b c d e f
theorem pick_any (w:World) (b a:Nat) (L r:IL) (k:Int) (hk:isT k=true) (ht:TapeIn w b L a) (ha:a≤4611686018427380000) (hr:r.In w) (hrn:r.l.length≤1000) :
  Calls Tryd.prog 41 #[.pointer (some ⟨b,0,none⟩),.slice r.h.ao r.l.length r.h.cap,.int .i64 k] w fun e w'=>ExOut r.l k w w' b a 2 1 L e:=by
 have hbl:=ht.lt;have hn:=hr.1.len;have HLW:=ai ht.low;have HK64:=ai (isT_64 hk);obtain⟨i0,hi,hz0,hz1,hz2⟩:=info_parts info3;have HI:=ai (And.intro hi (And.intro hz0 (And.intro hz1 hz2)));clear hi hz0 hz1 hz2;have HB0:=ai (belA (w:=w) (.cells #[.int .i64 0,.int .i64 0,.int .i64 0,.string ⟨#[]⟩,.int .i64 0,.slice none 0 0] 45))
 have HK:=ai (Box.new w #[.int .i64 0,.int .i64 0,.int .i64 0,.string ⟨#[]⟩,.int .i64 0,.slice none 0 0] 45);have HT:=ai (ht.mono HB0.o);have HR:=ai (hr.mono HB0.o);clear ht hr
 go_enter Tryd.func41,Tryd.ntmps41;go_wp2;go_loopw [7,8] (fun v i wr=>∃(j m:Nat) (xs:List Int),i = .int .i64 j∧j≤r.l.length∧m≤j∧Hid (wr.ownsRow (w.heap.size+1) 3 1 v m (xs.flatMap icells))∧Hid (∀x∈xs,(0≤x∧x≤1000)∧r.l.getD x.toNat 0=k)∧Hid (Below (w.alloc (.cells #[.int .i64 0,.int .i64 0,.int .i64 0,.string ⟨#[]⟩,.int .i64 0,.slice none 0 0] 45)).heap.size (w.alloc (.cells #[.int .i64 0,.int .i64 0,.int .i64 0,.string ⟨#[]⟩,.int .i64 0,.slice none 0 0] 45)) wr)) (fun _ i _=>r.l.length - (intOf i).toNat)
 case atStart=>exact⟨0,0,[],rfl,Nat.zero_le _,Nat.le_refl _,World.ownsRow_nil _ _ _ _,(fun x hx=>absurd hx List.not_mem_nil),Below.refl _ _⟩
 case round=>
  obtain⟨j,m,xs,rfl,hj,hm,HO,HX,HBW⟩:=hrel;have HRR:=ai (HR.o.mono HBW.o);have hszw:w.heap.size+1≤wr.heap.size:=by have:=HBW.o.size;simpa using this
  by_cases hlt:j<r.l.length
  ·have hix:=IL.ix HRR.o hlt
   have c0:=int_at HRR.o.1 hlt;have hbk:=HRR.o.1.blk hlt;obtain⟨bq,hbq⟩ : ∃q,(r.l[j] == k) =q:=⟨_,rfl⟩
   cases bq
   ·go_wp2
    go_roundw
    case rel=>exact⟨j+1,m,xs,by go_num,by omega,by omega,HO.o,HX.o,HBW.o⟩
    case measure=>simp [intOf];omega
   ·have HJK:=ai (show r.l.getD ((j:Int)).toNat 0=k by rw [Int.toNat_natCast,List.getD_eq_getElem?_getD,List.getElem?_eq_getElem hlt];exact eq_of_beq hbq)
    go_wp2_with (at_builtin;refine wpList_append_own _ rfl _ _ 22 rfl (w.heap.size+1) 3 i0 (.int .i64 0) 1 8 Tryd.underlying22 HI.o.1 HI.o.2.1 HI.o.2.2.1 HI.o.2.2.2 rfl (by decide) _ _ _ rfl (HO.o.alloc _) ⟨wr.heap.size,0,none⟩ 1 1 [.int .i64 (j:Int)] rfl rfl (new_cells (l:= [_])) one_int (by unfold maxLen;omega) (by omega) (by simp;omega) ?_;intro v' w2 hown' hgrow _)
    have HO':=ai hown';have HG:=ai hgrow;clear hown' hgrow;go_wp2;go_roundw
    case rel=>
     refine⟨j+1,m+1,xs ++ [(j:Int)],by go_num,by omega,by omega,?_,?_,?_⟩
     ·refine ai ?_
      rw [List.flatMap_append]
      simpa using HO'.o
     ·intro x hx
      rcases List.mem_append.1 hx with h|h
      ·exact HX.o x h
      ·rw [List.mem_singleton.1 h];exact⟨by omega,HJK.o⟩
     ·exact grown1 HBW.o HBW.o.size HG.o (fun b' hb'=>by have:=(HO.o.lt b' hb').1;simpa using this)
    case measure=>simp [intOf];omega
  ·have hxl:xs.length=m:=by
    have:=HO.o.1;rw [flatMap_len (cells:=icells) (size:=1) (fun _=>rfl)]at this
    omega
   obtain⟨r2,hv,hrl,hri,hlb⟩:=il_mk2 HO.o (fun n hn'=>by have:=HX.o n hn';constructor<;>omega)
   subst hv;have hrm:r2.l.length=m:=by rw [hrl];exact hxl
   have HRB:=ai hlb;have HXR:=ai (show∀x∈r2.l,(0≤x∧x≤1000)∧r.l.getD x.toNat 0=k from fun x hx=>HX.o x (hrl▸hx))
   have HRI:=ai hri;have hrn2:r2.l.length≤1000:=by omega
   clear hlb hri hrl hxl hrm HO HX HRR;have HTW:=ai (HT.o.mono HBW.o);have HGW:=ai (show w.grownBy wr (some b)from only_below (HB0.o.trans (HBW.o.mono HB0.o.size)) _)
   have HKW:=ai (HK.o.below HBW.o);obtain⟨n,hn'⟩ : ∃n:Nat,L.next a ((r2.l.length:Int) +2) =n:=⟨(L.next a ((r2.l.length:Int) +2)).toNat,by have:=(L.next_ok a (n:=(r2.l.length:Int) +2) (by omega)).1;omega⟩
   have HNX:=ai hn';clear hn';by_cases hnl:n<r2.l.length
   ·have hnl2: (n:Int) < (r2.l.length:Int):=by omega
    go_wp2_with (first
     | (go_at_call 10;refine(next_any _ b a L ((r2.l.length:Int) +2) HTW.o (by omega) (by omega) ⟨by omega,by omega⟩).mono ?_;rintro e w2 ⟨rfl,ht2,hg2⟩;rw [HNX.o];have HT2:=ai ht2;have HG2:=ai hg2;have hr2:=row_grown HRI.o.1 hg2 (fun hp=>by have:=HRB.o hp;omega);have hix:=IL.ix (show IL.In w2 r2 from⟨hr2,HRI.o.2⟩) hnl;have c0:=int_at hr2 hnl;have hbk:=hr2.blk hnl;have hkb:=HKW.o.grown hg2 (by simp;omega);have e0:=hkb.cell (j:=0) rfl;have e1:=hkb.cell (j:=1) rfl;have e2:=hkb.cell (j:=2) rfl;have e3:=hkb.cell (j:=3) rfl;have e4:=hkb.cell (j:=4) rfl;have e5:=hkb.cell (j:=5) rfl;have f0:=hkb.fr 0;have f1:=hkb.fr 1;have f2:=hkb.fr 2;have f3:=hkb.fr 3;have f4:=hkb.fr 4;have f5:=hkb.fr 5;clear hkb ht2 hg2 hr2))
    have hxr:=HXR.o _ (List.getElem_mem hnl);exact bodyPost_ret (v:=.agg #[.int .i64 5,.int .i64 0,.int .i64 0,.string ⟨#[]⟩,.int .i64 r2.l[n],.slice none 0 0]) (by simp [results,Tryd.results41,go_sem,e0,e1,e2,e3,e4,e5]) rfl
     ⟨⟨leafEx 5 0 0 ⟨#[]⟩ r2.l[n],rfl,leaf_in (by constructor<;>decide) z64 z64 (by show(0:Nat)≤maxLen;omega) (by constructor<;>omega) _,leaf_fresh _ _ _ _ _ _,by rw [leaf_size];omega,tyk_leaf hxr.2⟩,⟨a+1,by omega,by omega,tz2 HT2.o (set6 _ _ _ _ _ _ _ _) HLW.o (Nat.le_refl _)⟩,gb_then (HGW.o.trans HG2.o) (set6 _ _ _ _ _ _ _ _) (Nat.le_refl _)⟩
   ·have hnl2: ¬(n:Int) < (r2.l.length:Int):=by omega
    go_wp2_with (first
     | (go_at_call 10;refine(next_any _ b a L ((r2.l.length:Int) +2) HTW.o (by omega) (by omega) ⟨by omega,by omega⟩).mono ?_;rintro e w2 ⟨rfl,ht2,hg2⟩;rw [HNX.o];have HT2:=ai ht2;have HG2:=ai (HGW.o.trans hg2);have HK2:=ai (HKW.o.grown hg2 (by simp;omega));clear ht2 hg2)
     | (go_at_call 57;refine(value_any _ b (a+1) L k hk HT2.o (by omega)).mono ?_;rintro e w3 ⟨⟨v,⟨hvw,hvk⟩,rfl⟩,ht3,hg3⟩;have HVK:=ai hvk;clear hvk;have HT3:=ai ht3;have HG3:=ai (HG2.o.trans hg3);have HK3:=ai (HK2.o.grown hg3 (by simp;omega));have HVW:=ai hvw;clear ht3 hg3 hvw)
     | (go_at_call 78;refine(const_any v HVW.o k HK64.o HVK.o _).mono ?_;rintro e w4 ⟨⟨op,typ,num,text,rfl,hxi,hxk⟩,hb4⟩;have HXI:=ai hxi;have HXK:=ai hxk;clear hxk;have HT4:=ai (HT3.o.mono hb4);have HG4:=ai (HG3.o.trans (only_below hb4 _));have hkb:=HK3.o.below hb4;clear hxi hb4;have e0:=hkb.cell (j:=0) rfl;have e1:=hkb.cell (j:=1) rfl;have e2:=hkb.cell (j:=2) rfl;have e3:=hkb.cell (j:=3) rfl;have e4:=hkb.cell (j:=4) rfl;have e5:=hkb.cell (j:=5) rfl;have f0:=hkb.fr 0;have f1:=hkb.fr 1;have f2:=hkb.fr 2;have f3:=hkb.fr 3;have f4:=hkb.fr 4;have f5:=hkb.fr 5;clear hkb))
    exact bodyPost_ret (v:=.agg #[.int .i64 op,.int .i64 typ,.int .i64 num,.string text,.int .i64 0,.slice none 0 0]) (by simp [results,Tryd.results41,go_sem,e0,e1,e2,e3,e4,e5]) rfl
     ⟨⟨leafEx op typ num text 0,rfl,HXI.o _,leaf_fresh _ _ _ _ _ _,by rw [leaf_size];omega,HXK.o _⟩,⟨a+2,by omega,by omega,tz2 HT4.o (set6 _ _ _ _ _ _ _ _) HLW.o (Nat.le_refl _)⟩,gb_then HG4.o (set6 _ _ _ _ _ _ _ _) (Nat.le_refl _)⟩
end Go.Proofs.YtogalchclmmfgaaDoor
namespace Go.Proofs.YtogalchclmmfgaaDoor
open Go.RowKit
def Kept (b g:Nat) (W w':World) :Prop:=(∀k,k<W.heap.size→k≠b→k≠g→w'.heap[k]? = W.heap[k]?)∧W.heap.size≤w'.heap.size
theorem Kept.refl (b g:Nat) (W:World) :Kept b g W W:=⟨fun _ _ _ _=>rfl,Nat.le_refl _⟩
theorem Kept.drew {b g:Nat} {W x:World} (h:Kept b g W x) :Kept b g W x.drew:=h
theorem Kept.grown {b g:Nat} {W x y:World} (h:Kept b g W x) (hg:x.grownBy y (some b)) :Kept b g W y:=
 ⟨fun k hk h1 h2=>(hg.block k (Nat.lt_of_lt_of_le hk h.2) (by simpa using h1)).trans (h.1 k hk h1 h2),Nat.le_trans h.2 hg.size⟩
theorem Kept.alloc {b g:Nat} {W x:World} (h:Kept b g W x) (o:Obj) :Kept b g W (x.alloc o):=h.grown (only_below (belA o) _)
theorem Kept.set {b g:Nat} {W x:World} (h:Kept b g W x) (j:Nat) (v:Value) :Kept b g W (x.setCell ⟨g,j,none⟩ v):=
 ⟨fun k hk h1 h2=>(Below.heap_setCell _ _ _ _ (fun e=>h2 (by rw [e]))).trans (h.1 k hk h1 h2),Nat.le_trans h.2 (by simp [World.setCell])⟩
theorem Kept.box {b g k:Nat} {W x:World} {cs:Array Value} {T:TypeId} (h:Kept b g W x) (hb:Box W k cs T) (h1:k≠b) (h2:k≠g) :Box x k cs T:=(h.1 k hb.lt h1 h2).trans hb
theorem gb_drew {x y:World} {r:Option Nat} (h:x.drew.grownBy y r) :x.grownBy y r:=⟨h.os,h.tape,h.output,h.size,h.block⟩
theorem bel_self (w:World) :Below w.heap.size w w.drew:=(Below.refl _ _).drew
abbrev ZE:Obj:=.cells #[.int .i64 0,.int .i64 0,.int .i64 0,.string ⟨#[]⟩,.int .i64 0,.slice none 0 0] 45
abbrev laid (w:World) (e:Ex) :World:=w.alloc (.cells #[.int .i64 e.op,.int .i64 e.typ,.int .i64 e.num,.string e.text,.int .i64 e.col,.slice e.kh.ao e.kids.length e.kh.cap] 45)
theorem laid_box (w:World) (e:Ex) :Box (laid w e) w.heap.size e.cells.toArray 45:=Box.new w e.cells.toArray 45
theorem laid_below (w:World) (e:Ex) :Below w.heap.size w (laid w e):=belA _
abbrev nodeEx (op:Int) (g cap:Nat) (xs:List Ex) :Ex:=⟨op,0,0,⟨#[]⟩,0,⟨some ⟨g,0,none⟩,cap⟩,xs⟩
theorem exl (x:Ex) :x.cells.length=6:=rfl
theorem node_in {w:World} {g:Nat} {op:Int} {xs:List Ex} (hop:int64 op) (hxs: ∀x∈xs,x.In w) (hl:xs.length≤1000) (hb:Box w g (xs.flatMap Ex.cells).toArray 45) : (nodeEx op g xs.length xs).In w:=
 ⟨_,⟨hop,z64,z64,by show(0:Nat)≤maxLen;omega,z64⟩,row_of_box exl (by unfold maxLen;omega) hb,hxs⟩
theorem node_fresh {g cap B:Nat} {op:Int} {xs:List Ex} (hB:B≤g) (hxs: ∀x∈xs,x.Fresh B) : (nodeEx op g cap xs).Fresh B:=⟨_,fun _=>hB,hxs⟩
inductive Ex.Off (g:Nat) :Ex→Prop where
 | mk (e:Ex) (hb:0<e.kids.length→e.kh.b≠g) (hk: ∀k∈e.kids,Ex.Off g k) :Ex.Off g e
theorem Ex.In.off {w:World} {e:Ex} {g:Nat} (h:e.In w) (hg:w.heap.size≤g) :e.Off g:=by
 induction h with
 | mk e _ hr _ ih=>exact⟨e,fun hp=>by have:=hr.blk hp;omega,ih⟩
theorem Ex.Fresh.off {B g:Nat} {e:Ex} (h:e.Fresh B) (hg:g<B) :e.Off g:=by
 induction h with
 | mk e h1 _ ih=>exact⟨e,fun hp=>by have:=h1 hp;omega,ih⟩
theorem Ex.In.grownOff {w w':World} {g:Nat} {e:Ex} (h:e.In w) (hf:e.Off g) (hg:w.grownBy w' (some g)) :e.In w':=by
 induction h with
 | mk e hw hr hk ih=>
  cases hf with
  | mk _ hb hk'=>exact⟨e,hw,row_grown hr hg hb,fun k hkk=>ih k hkk (hk' k hkk)⟩
def ExprAt (n N:Nat) (d:Int) :Prop:=∀(w:World) (b a:Nat) (L r:IL) (k:Int),isT k=true→TapeIn w b L a→a+n≤4611686018427370000→r.In w→r.l.length≤1000→(0<r.l.length→r.h.b≠b)→
 Calls Tryd.prog 19 #[.pointer (some ⟨b,0,none⟩),.slice r.h.ao r.l.length r.h.cap,.int .i64 k,.int .i64 d] w fun e w'=>ExOut r.l k w w' b a n N L e
theorem ty_node {ts:List Int} {op:Int} {g c:Nat} {xs:List Ex} (h: ((nodeEx op g c xs).ty ts).2=0) : ((nodeEx op g c xs).ty ts).1=resE ts op 0 0 (xs.map fun x=>(x.ty ts).1)∧isT ((nodeEx op g c xs).ty ts).1=true∧∀x∈xs,(x.ty ts).2=0:=ty_res h
theorem isT_if {p:Prop} [Decidable p] {n:Int} (h:isT (if p then n else 0) =true) : (if p then n else 0) =n:=by
 split at h
 ·rename_i hp;rw [if_pos hp]
 ·exact absurd h (by decide)
theorem tyk_int {ts:List Int} {op:Int} {g c:Nat} {xs:List Ex} (h:6≤op∧op≤11∨op=13) :TyK ts 1 (nodeEx op g c xs):=fun h0=>by
 obtain⟨h1,h2,-⟩:=ty_node h0;rw [h1]at h2 ⊢
 unfold resE at h2 ⊢
 rw [if_neg (by omega),if_neg (by omega),if_neg (by omega),if_neg (by omega),if_neg (by omega)]at h2 ⊢
 by_cases h11:op≤11
 ·rw [if_pos h11]at h2 ⊢
  exact isT_if h2
 ·rw [if_neg h11,if_neg (by omega),if_pos (by omega)]at h2 ⊢
  exact isT_if h2
theorem tyk_txt {ts:List Int} {g c:Nat} {xs:List Ex} : TyK ts 3 (nodeEx 12 g c xs):=fun h0=>by
 obtain⟨h1,h2,-⟩:=ty_node h0;rw [h1]at h2 ⊢;exact isT_if h2
theorem tyk_bool {ts:List Int} {op:Int} {g c:Nat} {xs:List Ex} (h:14≤op∧op≤25∨op=28) :TyK ts 2 (nodeEx op g c xs):=fun h0=>by
 obtain⟨h1,h2,-⟩:=ty_node h0;rw [h1]at h2 ⊢
 unfold resE at h2 ⊢
 rw [if_neg (by omega),if_neg (by omega),if_neg (by omega),if_neg (by omega),if_neg (by omega),if_neg (by omega),if_neg (by omega),if_neg (by omega)]at h2 ⊢
 by_cases h21:op=21
 ·rw [if_pos h21]
 rw [if_neg h21]at h2 ⊢;by_cases h22:22≤op∧op≤25
 ·rw [if_pos h22]at h2 ⊢
  exact isT_if h2
 ·rw [if_neg h22,if_neg (by omega),if_neg (by omega)]at h2 ⊢
  exact isT_if h2
theorem tyk_case {ts:List Int} {k:Int} {g c:Nat} {q p s:Ex} (h:TyK ts k p) :TyK ts k (nodeEx 26 g c [q,p,s]):=fun h0=>by
 obtain⟨h1,h2,h3⟩:=ty_node h0;rw [h1]at h2 ⊢;have hp:=h (h3 p (by simp))
 exact(isT_if h2).trans hp
theorem tyk_coal {ts:List Int} {k:Int} {g c:Nat} {p s:Ex} (h:TyK ts k p) :TyK ts k (nodeEx 27 g c [p,s]):=fun h0=>by
 obtain⟨h1,h2,h3⟩:=ty_node h0;rw [h1]at h2 ⊢;have hp:=h (h3 p (by simp))
 exact(isT_if h2).trans hp
def TwoOut (ts:List Int) (x0:Int) (w w':World) (b a n N:Nat) (L:IL) (op:Int) (r:Ending) :Prop:=
 (∃(e1 e2:Ex) (g:Nat),r = .returned (.agg #[.int .i64 op,.int .i64 0,.int .i64 0,.string ⟨#[]⟩,.int .i64 0,.slice (some ⟨g,0,none⟩) 2 2])∧(∀x∈ [e1,e2],x.In w'∧x.Fresh w.heap.size∧x.size≤N∧x.Off g∧TyK ts x0 x)∧Box w' g ([e1,e2].flatMap Ex.cells).toArray 45∧w.heap.size≤g)∧(∃a',a≤a'∧a'≤a+n∧TapeIn w' b L a')∧w.grownBy w' (some b)
theorem TwoOut.ex {ts:List Int} {x0 k:Int} {w w':World} {b a n N:Nat} {L:IL} {op:Int} {r:Ending} (h:TwoOut ts x0 w w' b a n N L op r) (hop:int64 op) (htk: ∀(p s:Ex) (g:Nat),TyK ts x0 p→TyK ts k (nodeEx op g 2 [p,s])) :ExOut ts k w w' b a n (1+2*N) L r:=by
 obtain⟨⟨e1,e2,g,rfl,hx,hb,hg⟩,ht,hgr⟩:=h;refine⟨⟨nodeEx op g 2 [e1,e2],rfl,node_in hop (fun x hx'=>(hx x hx').1) (by simp) hb,node_fresh hg (fun x hx'=>(hx x hx').2.1),?_,htk _ _ _ (hx e1 (by simp)).2.2.2.2⟩,ht,hgr⟩
 have h1:=(hx e1 (by simp)).2.2.1
 have h2:=(hx e2 (by simp)).2.2.1
 rw [Ex.size_eq];simp only [Ex.sizes];omega
theorem ex_done {ts:List Int} {k:Int} {w x:World} {b a a' n N g:Nat} {L:IL} {e:Ex} {B:Nat} (hx:e.In x) (hf:e.Fresh B) (hB:g<B) (hw:w.heap.size≤g) (hs:e.size≤N) (h1:a≤a') (h2:a'≤a+n) (ht:TapeIn x b L a') (hg:w.grownBy x (some b)) (hL:b<w.heap.size∧(0<L.l.length→L.h.b<w.heap.size)) (hk:TyK ts k e) :
  ExOut ts k w ((((((x.setCell ⟨g,0,none⟩ (.int .i64 e.op)).setCell ⟨g,1,none⟩ (.int .i64 e.typ)).setCell ⟨g,2,none⟩ (.int .i64 e.num)).setCell ⟨g,3,none⟩ (.string e.text)).setCell ⟨g,4,none⟩ (.int .i64 e.col)).setCell ⟨g,5,none⟩ (.slice e.kh.ao e.kids.length e.kh.cap)) b a n N L (.returned (.agg #[.int .i64 e.op,.int .i64 e.typ,.int .i64 e.num,.string e.text,.int .i64 e.col,.slice e.kh.ao e.kids.length e.kh.cap])):=
 ⟨⟨e,rfl,hx.grown hf (set6 _ _ _ _ _ _ _ _) hB,hf.mono (by omega),hs,hk⟩,⟨a',h1,h2,tz2 ht (set6 _ _ _ _ _ _ _ _) hL hw⟩,gb_then hg (set6 _ _ _ _ _ _ _ _) hw⟩
theorem two_any {d:Int} (hd:2≤d∧d≤3) {n N:Nat} (hE:ExprAt n N (d - 1)) (w:World) (b a:Nat) (L r:IL) (op x:Int) (hx:isT x=true) (ht:TapeIn w b L a) (ha:a+2*n≤4611686018427370000) (hr:r.In w) (hrn:r.l.length≤1000) (hrb:0<r.l.length→r.h.b≠b)
  (g0 g1 g2:Nat) (T0 T1 T2:TypeId) (h0:Box w g0 #[.pointer (some ⟨b,0,none⟩)] T0) (h1:Box w g1 #[.slice r.h.ao r.l.length r.h.cap] T1) (h2:Box w g2 #[.int .i64 d] T2) (n0:g0≠b) (n1:g1≠b) (n2:g2≠b) :
  Calls Tryd.prog 42 #[.int .i64 op,.int .i64 x,.pointer (some ⟨g0,0,none⟩),.pointer (some ⟨g1,0,none⟩),.pointer (some ⟨g2,0,none⟩)] w fun e w'=>TwoOut r.l x w w' b a (2*n) N L op e:=by
 have hbl:=ht.lt;have hl0:=h0.lt;have hl1:=h1.lt;have hl2:=h2.lt;have HLW:=ai ht.low;have HEE:=ai hE;have HB0:=ai (belA (w:=w) ZE)
 have HT:=ai (ht.mono HB0.o);have HR:=ai (hr.mono HB0.o);have HK:=ai (Box.new w #[.int .i64 0,.int .i64 0,.int .i64 0,.string ⟨#[]⟩,.int .i64 0,.slice none 0 0] 45);have H0:=ai (h0.below HB0.o);have H1:=ai (h1.below HB0.o);have H2:=ai (h2.below HB0.o);have hw1:IntKind.i64.wrap (d - 1) =d - 1:=by
  have hc:d=2∨d=3:=by omega
  rcases hc with rfl|rfl<;>rfl
 clear ht hr hE h0 h1 h2;have y0:=H0.o.cell (j:=0) rfl
 have y1:=H1.o.cell (j:=0) rfl
 have y2:=H2.o.cell (j:=0) rfl
 go_enter Tryd.func42,Tryd.ntmps42;go_upto_region 2 with(go_at_call 19;refine(HEE.o _ b a L r x hx HT.o (by omega) HR.o hrn hrb).mono ?_;rintro e w2 ⟨⟨e1,rfl,hi1,hf1,hs1,hk1⟩,⟨a1,ha1,hb1,ht2⟩,hg2⟩;have HK1:=ai hk1;clear hk1;have HI1:=ai hi1;have HF1:=ai hf1;have HG2:=ai hg2;have HT2:=ai ht2;clear hi1 hf1 hg2 ht2)
 have hsz2:=HG2.o.size;simp only [World.size_alloc]at hsz2;generalize hV:w2.alloc (.cells #[.int .i64 e1.op,.int .i64 e1.typ,.int .i64 e1.num,.string e1.text,.int .i64 e1.col,.slice e1.kh.ao e1.kids.length e1.kh.cap] 45) =V;have HBL:=ai (show Below w2.heap.size w2 V from hV▸laid_below w2 e1)
 have HBX:=ai (show Box V w2.heap.size e1.cells.toArray 45 from hV▸laid_box w2 e1)
 clear hV;have HGL:=ai (show w.grownBy (V) (some b)from((only_below HB0.o _).trans HG2.o).trans (only_below HBL.o _))
 have HTL:=ai (HT2.o.mono HBL.o);have HIL:=ai (HI1.o.mono HBL.o);have HRL:=ai (show r.In (V)from IL.In.mono ⟨row_grown HR.o.1 HG2.o hrb,HR.o.2⟩ HBL.o)
 have H0L:=ai ((H0.o.grown HG2.o (by simpa using n0)).below HBL.o)
 have H1L:=ai ((H1.o.grown HG2.o (by simpa using n1)).below HBL.o)
 have H2L:=ai ((H2.o.grown HG2.o (by simpa using n2)).below HBL.o)
 have HKL:=ai ((HK.o.grown HG2.o (by simp;omega)).below HBL.o)
 have hszL:=HBL.o.size;clear HI1 HT2 HBL y0 y1 y2 HT HR HK H0 H1 H2;have hvl:=HBX.o.lt;have HE1:=ai (show∀w',Kept b w.heap.size V w'→Box w' w2.heap.size e1.cells.toArray 45 from fun w' h=>h.box HBX.o (by omega) (by omega))
 have y8: ∀w',Kept b w.heap.size V w'→w'.cell? ⟨w2.heap.size,0,none⟩ =some (.int .i64 e1.op):=fun w' h=>(HE1.o w' h).cell (j:=0) rfl
 have y9: ∀w',Kept b w.heap.size V w'→w'.cell? ⟨w2.heap.size,1,none⟩ =some (.int .i64 e1.typ):=fun w' h=>(HE1.o w' h).cell (j:=1) rfl
 have y10: ∀w',Kept b w.heap.size V w'→w'.cell? ⟨w2.heap.size,2,none⟩ =some (.int .i64 e1.num):=fun w' h=>(HE1.o w' h).cell (j:=2) rfl
 have y11: ∀w',Kept b w.heap.size V w'→w'.cell? ⟨w2.heap.size,3,none⟩ =some (.string e1.text):=fun w' h=>(HE1.o w' h).cell (j:=3) rfl
 have y12: ∀w',Kept b w.heap.size V w'→w'.cell? ⟨w2.heap.size,4,none⟩ =some (.int .i64 e1.col):=fun w' h=>(HE1.o w' h).cell (j:=4) rfl
 have y13: ∀w',Kept b w.heap.size V w'→w'.cell? ⟨w2.heap.size,5,none⟩ =some (.slice e1.kh.ao e1.kids.length e1.kh.cap):=fun w' h=>(HE1.o w' h).cell (j:=5) rfl
 have z0: ∀w',Kept b w.heap.size V w'→w'.cell? ⟨g0,0,none⟩ =some (.pointer (some ⟨b,0,none⟩)):=fun w' h=>(h.box H0L.o n0 (by omega)).cell (j:=0) rfl
 have z1: ∀w',Kept b w.heap.size V w'→w'.cell? ⟨g1,0,none⟩ =some (.slice r.h.ao r.l.length r.h.cap):=fun w' h=>(h.box H1L.o n1 (by omega)).cell (j:=0) rfl
 have z2: ∀w',Kept b w.heap.size V w'→w'.cell? ⟨g2,0,none⟩ =some (.int .i64 d):=fun w' h=>(h.box H2L.o n2 (by omega)).cell (j:=0) rfl
 go_region_held3 (fun w'=>Kept b w.heap.size V w') ((with_reducible first|exact Kept.drew (Kept.refl _ _ _) |exact Kept.grown (by assumption) (by assumption) |exact Kept.alloc (by assumption) _|exact Kept.set (Kept.set (Kept.set (Kept.set (Kept.set (Kept.set (by assumption) _ _) _ _) _ _) _ _) _ _) _ _))
  (first
   | (go_at_call 19;refine(HEE.o _ b a1 L r x hx (HTL.o.mono (bel_self _)) (by omega) (HRL.o.mono (bel_self _)) hrn hrb).mono ?_;rintro e w5 ⟨⟨e2,rfl,hi2,hf2,hs2,hk2⟩,⟨a2,ha2,hb2,ht5⟩,hg5⟩;have HK2:=ai hk2;clear hk2;have HI2:=ai hi2;have HF2:=ai hf2;have HT5:=ai ht5;have HG5:=ai (gb_drew hg5);have hkb:=HKL.o.grown HG5.o (by simp;omega);have hkb2:=hkb.below (belA (.cells #[.int .i64 e1.op,.int .i64 e1.typ,.int .i64 e1.num,.string e1.text,.int .i64 e1.col,.slice e1.kh.ao e1.kids.length e1.kh.cap,.int .i64 e2.op,.int .i64 e2.typ,.int .i64 e2.num,.string e2.text,.int .i64 e2.col,.slice e2.kh.ao e2.kids.length e2.kh.cap] 45));have HKA:=ai hkb2;have e0:=hkb2.cell (j:=0) rfl;have f0:=hkb2.fr 0;have c1:=hkb2.cell (j:=1) rfl;have f1:=hkb2.fr 1;have c2:=hkb2.cell (j:=2) rfl;have f2:=hkb2.fr 2;have c3:=hkb2.cell (j:=3) rfl;have f3:=hkb2.fr 3;have c4:=hkb2.cell (j:=4) rfl;have f4:=hkb2.fr 4;have c5:=hkb2.cell (j:=5) rfl;have f5:=hkb2.fr 5;clear hi2 hf2 ht5 hkb hkb2))
 have hf1:=HF1.o;have hf2:=HF2.o;have hs5:=HG5.o.size;simp only [World.size_alloc]at hf1;have hf2':e2.Fresh (w.heap.size+1):=hf2.mono (by show w.heap.size+1≤V.heap.size;omega)
 have ho1:e1.Off w5.heap.size:=(HIL.o.grown hf1 HG5.o (by omega)).off (Nat.le_refl _)
 have ho2:e2.Off w5.heap.size:=HI2.o.off (Nat.le_refl _);have hi1:e1.In (w5.alloc (.cells ([e1,e2].flatMap Ex.cells).toArray 45)):=(HIL.o.grown hf1 HG5.o (by omega)).mono (belA _)
 have hi2:e2.In (w5.alloc (.cells ([e1,e2].flatMap Ex.cells).toArray 45)):=HI2.o.mono (belA _);have htp:TapeIn (w5.alloc (.cells ([e1,e2].flatMap Ex.cells).toArray 45)) b L a2:=HT5.o.mono (belA _);have hbx:=Box.new w5 ([e1,e2].flatMap Ex.cells).toArray 45;have hgw:w.grownBy (w5.alloc (.cells ([e1,e2].flatMap Ex.cells).toArray 45)) (some b):=(HGL.o.trans HG5.o).trans (only_below (belA _) _);have q0:=HKA.o.set 0 (.int .i64 op);have q1:=q0.set 1 (.int .i64 0);have q2:=q1.set 2 (.int .i64 0);have q3:=q2.set 3 (.string ⟨#[]⟩);have q4:=q3.set 4 (.int .i64 0);have q5:=q4.set 5 (.slice (some ⟨w5.heap.size,0,none⟩) 2 2);have r0:=q5.cell (j:=0) rfl
 have r1:=q5.cell (j:=1) rfl
 have r2:=q5.cell (j:=2) rfl
 have r3:=q5.cell (j:=3) rfl
 have r4:=q5.cell (j:=4) rfl
 have r5:=q5.cell (j:=5) rfl
 have HF:=ai (show TwoOut r.l x w ((((((((w5.alloc (.cells ([e1,e2].flatMap Ex.cells).toArray 45)).setCell ⟨w.heap.size,0,none⟩ (.int .i64 op)).setCell ⟨w.heap.size,1,none⟩ (.int .i64 0)).setCell ⟨w.heap.size,2,none⟩ (.int .i64 0)).setCell ⟨w.heap.size,3,none⟩ (.string ⟨#[]⟩)).setCell ⟨w.heap.size,4,none⟩ (.int .i64 0)).setCell ⟨w.heap.size,5,none⟩ (.slice (some ⟨w5.heap.size,0,none⟩) 2 2))) b a (2*n) N L op (.returned (.agg #[.int .i64 op,.int .i64 0,.int .i64 0,.string ⟨#[]⟩,.int .i64 0,.slice (some ⟨w5.heap.size,0,none⟩) 2 2]))from
  ⟨⟨e1,e2,w5.heap.size,rfl,fun x hx=>by
    simp only [List.mem_cons,List.not_mem_nil,or_false]at hx;rcases hx with rfl|rfl
    ·exact⟨hi1.grown hf1 (set6 _ _ _ _ _ _ _ _) (by omega),hf1.mono (by omega),hs1,ho1,HK1.o⟩
    ·exact⟨hi2.grown hf2' (set6 _ _ _ _ _ _ _ _) (by omega),hf2'.mono (by omega),hs2,ho2,HK2.o⟩,hbx.grown (set6 _ _ _ _ _ _ _ _) (by simp;omega),by omega⟩,⟨a2,by omega,by omega,tz2 htp (set6 _ _ _ _ _ _ _ _) HLW.o (Nat.le_refl _)⟩,gb_then hgw (set6 _ _ _ _ _ _ _ _) (Nat.le_refl _)⟩)
 clear hf1 hf2 hf2' ho1 ho2 hi1 hi2 htp hbx hgw q0 q1 q2 q3 q4 q5 y8 y9 y10 y11 y12 y13 z0 z1 z2;go_wp2_with fail
 exact bodyPost_ret (v:=.agg #[.int .i64 op,.int .i64 0,.int .i64 0,.string ⟨#[]⟩,.int .i64 0,.slice (some ⟨w5.heap.size,0,none⟩) 2 2]) (by simp [results,Tryd.results42,go_sem,r0,r1,r2,r3,r4,r5]) rfl HF.o
end Go.Proofs.YtogalchclmmfgaaDoor

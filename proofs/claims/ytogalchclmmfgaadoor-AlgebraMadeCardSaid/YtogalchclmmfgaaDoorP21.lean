/- A part of the proof of AlgebraMade. -/
import Derived.Test.YtogalchclmmfgaaDoorP20
import Derived.Test.YtogalchclmmfgaaDoorP11
import Derived.Test.YtogalchclmmfgaaDoorP02
import Derived.BigQuiet
import Derived.Deep.QuietTactic
set_option maxRecDepth 100000
set_option maxHeartbeats 16000000
namespace Go.Proofs.YtogalchclmmfgaaDoor
open Go.RowKit
theorem tape_app {w w':World} {b a B:Nat} {L:IL} {v:Value} {n size:Nat} {e:TypeId} {xs:List Value} (h:TapeIn w b L a) (ho:w.ownsRow B e size v n xs) (hB:b<B∧(0<L.l.length→L.h.b<B)) (hg:w.grownBy w' v.ownBlock) :TapeIn w' b L a:=tzo h hg hB (fun c hc=>(ho.lt c hc).1)
theorem gb_app {u w w':World} {r:Option Nat} {v:Value} {n size:Nat} {e:TypeId} {xs:List Value} (h:u.grownBy w r) (ho:w.ownsRow u.heap.size e size v n xs) (hg:w.grownBy w' v.ownBlock) :u.grownBy w' r:=gbo h hg (fun c hc=>(ho.lt c hc).1)
theorem fm_snoc2 {α:Type} (cells:α→List Value) (xs:List α) (x:α) : (xs ++ [x]).flatMap cells=xs.flatMap cells ++ cells x:=by simp
theorem mtypes_any (w:World) (b a:Nat) (L:IL) (m:Int) (hm:1≤m∧m≤3) (ht:TapeIn w b L a) (ha:a≤4611686018427370000) :
  Calls Tryd.prog 32 #[.pointer (some ⟨b,0,none⟩),.int .i64 m] w fun e w'=>(∃o:IL,e = .returned (.slice o.h.ao o.l.length o.h.cap)∧o.In w'∧OwnIL w.heap.size w' o∧1≤o.l.length∧o.l.length≤3∧∀t∈o.l,isT t=true)∧(∃a',a≤a'∧a'≤a+4∧TapeIn w' b L a')∧w.grownBy w' (some b):=by
 have HLW:=ai ht.low;have hbl:=ht.lt;obtain⟨i0,hi,hz0,hz1,hz2⟩:=info_parts info3;have HI:=ai (And.intro hi (And.intro hz0 (And.intro hz1 hz2)));clear hi hz0 hz1 hz2;have HT:=ai ht;clear ht;obtain⟨n,hn,hn3⟩:=nat_next L a (n:=m) hm.1
 have HN:=ai hn;clear hn;have hwn:IntKind.i64.wrap (1+ (n:Int)) =1+n:=by rw [IntKind.wrap_i64];omega
 go_enter Tryd.func32,Tryd.ntmps32;go_wp2_with (go_at_call 10;refine(next_any _ b a L m HT.o (by omega) hm.1 ⟨by omega,by omega⟩).mono ?_;rintro e w1 ⟨rfl,ht2,hg2⟩;rw [HN.o];have HT1:=ai ht2;have HG1:=ai hg2;clear ht2 hg2)
 go_loopw [6,7] (fun v i wr=>∃(k:Nat) (xs:List Int),i = .int .i64 k∧k≤1+n∧Hid (xs.length=k∧∀t∈xs,isT t=true)∧Hid (wr.ownsRow w.heap.size 3 1 v k (xs.flatMap icells))∧Hid (TapeIn wr b L (a+1+k))∧Hid (w.grownBy wr (some b))) (fun _ i _=>1+n - (intOf i).toNat)
 case atStart=>exact⟨0,[],rfl,Nat.zero_le _,⟨rfl,fun t h=>absurd h List.not_mem_nil⟩,World.ownsRow_nil _ _ _ _,HT1.o,HG1.o⟩
 case round=>
  obtain⟨k,xs,rfl,hk,HX,HO,HTR,HGR⟩:=hrel;clear HT1 HG1;by_cases hlt:k<1+n
  ·have hlti: (k:Int) <1+ (n:Int):=by omega
   obtain⟨q,hq,hq3⟩:=nat_next L (a+1+k) (n:=3) (by decide)
   have HQ:=ai hq;clear hq;have hwq:IntKind.i64.wrap (1+ (q:Int)) =1+q:=by rw [IntKind.wrap_i64];omega
   go_wp2_with (first
    | (go_at_call 10;refine(next_any _ b (a+1+k) L 3 HTR.o (by omega) (by decide) ⟨by decide,by decide⟩).mono ?_;rintro e w2 ⟨rfl,ht2,hg2⟩;rw [HQ.o];have HT2:=ai ht2;have HG2:=ai (HGR.o.trans hg2);have HO2:=ai (own_next HO.o HLW.o.1 hg2);clear ht2 hg2)
    | (at_builtin;refine wpList_append_own _ rfl _ _ 22 rfl w.heap.size 3 i0 (.int .i64 0) 1 8 Tryd.underlying22 HI.o.1 HI.o.2.1 HI.o.2.2.1 HI.o.2.2.2 rfl (by decide) _ _ _ rfl (HO2.o.alloc _) ⟨w2.heap.size,0,none⟩ 1 1 [.int .i64 (1+ (q:Int))] rfl rfl (new_cells (l:= [_])) one_int (by unfold maxLen;omega) (by omega) (by have:=HG2.o.size;simp;omega) ?_;intro v' w3 hown' hgrow _;have HOW:=ai hown';have HTW:=ai (tape_app (HT2.o.mono (belA _)) (HO2.o.alloc _) HLW.o hgrow);have HGW:=ai (gb_app (HG2.o.trans (only_below (belA _) _)) (HO2.o.alloc _) hgrow);clear hown' hgrow))
   go_wp2;go_roundw
   case rel=>
    refine⟨k+1,xs ++ [1+ (q:Int)],by go_num,by omega,⟨by rw [List.length_append,HX.o.1];rfl,fun t h=> ?_⟩,?_,?_,HGW.o⟩
    ·rcases List.mem_append.1 h with h|h
     ·exact HX.o.2 t h
     ·rw [List.mem_singleton.1 h];exact decide_eq_true (by omega)
    ·show Hid _
     rw [fm_snoc2];exact HOW.o
    ·exact HTW.o
   case measure=>simp [intOf];omega
  ·have hlti: ¬(k:Int) <1+ (n:Int):=by omega
   have hke:k=1+n:=by omega
   obtain⟨o,hv,ho1,ho2,ho3⟩:=il_own HO.o (fun t h=>isT_64 (HX.o.2 t h))
   have HV:=ai hv;have HO2:=ai ho2;have HO3:=ai ho3;have HL:=ai ho1;clear hv ho2 ho3 ho1;go_wp2;go_ret
   refine⟨⟨o,by rw [HV.o];rfl,HO2.o,HO3.o,?_,?_,?_⟩,⟨a+1+k,by omega,by omega,HTR.o⟩,HGR.o⟩
   ·rw [HL.o,HX.o.1];omega
   ·rw [HL.o,HX.o.1];omega
   ·rw [HL.o];exact HX.o.2
theorem info_val: (Tryd.prog.info? 98).map (fun i=>(i.zero,i.size,i.bytes)) =some (some (.agg #[.int .i64 0,.int .i64 0,.string ⟨#[]⟩]),3,32):=by kernel_rfl
theorem mrow_any (w:World) (b a:Nat) (L:IL) (ts:IL) (hts:Kp b b (fun x=>ts.In x) w) (hT: ∀t∈ts.l,isT t=true) (hl:ts.l.length≤100) (ht:TapeIn w b L a) (ha:a≤4611686018427370000) :
  Calls Tryd.prog 33 #[.pointer (some ⟨b,0,none⟩),.slice ts.h.ao ts.l.length ts.h.cap] w fun e w'=>(∃o:VL,e = .returned (.slice o.h.ao o.l.length o.h.cap)∧o.In w'∧(0<o.l.length→w.heap.size≤o.h.b)∧o.l.length≤ts.l.length)∧(∃a',a≤a'∧a'≤a+4*ts.l.length∧TapeIn w' b L a')∧w.grownBy w' (some b):=by
 have HLW:=ai ht.low;have hbl:=ht.lt;obtain⟨i0,hi,hz0,hz1,hz2⟩:=info_parts info_val;have HI:=ai (And.intro hi (And.intro hz0 (And.intro hz1 hz2)));clear hi hz0 hz1 hz2;have HT:=ai ht;have HTS:=ai hts;have HTT:=ai hT;clear ht hts hT
 go_enter Tryd.func33,Tryd.ntmps33;go_wp2;go_loopw [5,6] (fun v i wr=>∃(k p:Nat) (xs:List V),i = .int .i64 k∧k≤ts.l.length∧p≤4*k∧Hid (xs.length=k∧∀v∈xs,v.wf)∧Hid (wr.ownsRow w.heap.size 98 3 v k (xs.flatMap V.cells))∧Hid (TapeIn wr b L (a+p))∧Hid (w.grownBy wr (some b))) (fun _ i _=>ts.l.length - (intOf i).toNat)
 case atStart=>exact⟨0,0,[],rfl,Nat.zero_le _,Nat.zero_le _,⟨rfl,fun t h=>absurd h List.not_mem_nil⟩,World.ownsRow_nil _ _ _ _,HT.o,⟨rfl,rfl,rfl,Nat.le_refl _,fun _ _ _=>rfl⟩⟩
 case round=>
  obtain⟨k,p,xs,rfl,hk,hp,HX,HO,HTR,HGR⟩:=hrel;by_cases hlt:k<ts.l.length
  ·have hlti: (k:Int) <ts.l.length:=by omega
   have hin:=HTS.o _ (Kept.of HGR.o);have hix:=IL.ix hin hlt;have c0:=int_at hin.1 hlt;have hbk:=hin.1.blk hlt;have HTK:=ai (HTT.o _ (List.getElem_mem hlt));obtain⟨t,ht⟩ : ∃t,ts.l[k] =t:=⟨_,rfl⟩;rw [ht]at c0 HTK;clear ht hin;go_wp2_with (first
    | (go_at_call 57;refine(value_any _ b (a+p) L t HTK.o HTR.o (by omega)).mono ?_;rintro e w2 ⟨⟨u,⟨hvw,-⟩,rfl⟩,ht2,hg2⟩;have HVW:=ai hvw;have HT2:=ai ht2;have HG2:=ai (HGR.o.trans hg2);have HO2:=ai (own_next HO.o HLW.o.1 hg2);clear ht2 hg2 hvw)
    | (at_builtin;refine wpList_append_own _ rfl _ _ 79 rfl w.heap.size 98 i0 _ 3 32 Tryd.underlying79 HI.o.1 HI.o.2.1 HI.o.2.2.1 HI.o.2.2.2 rfl (by decide) _ _ _ rfl (HO2.o.alloc _) ⟨w2.heap.size,0,none⟩ 1 1 [.int .i64 u.kind,.int .i64 u.num,.string u.text] rfl rfl (new_cells (l:= [_,_,_])) (by intro x hx;simp only [List.mem_cons,List.not_mem_nil,or_false]at hx;rcases hx with rfl|rfl|rfl<;>rfl) (by unfold maxLen;omega) (by omega) (by have:=HG2.o.size;simp;omega) ?_;intro v' w3 hown' hgrow _;have HOW:=ai hown';have HTW:=ai (tape_app (HT2.o.mono (belA _)) (HO2.o.alloc _) HLW.o hgrow);have HGW:=ai (gb_app (HG2.o.trans (only_below (belA _) _)) (HO2.o.alloc _) hgrow);clear hown' hgrow))
   go_wp2;go_roundw
   case rel=>
    refine⟨k+1,p+1,xs ++ [u],by go_num,by omega,?_,⟨by rw [List.length_append,HX.o.1];rfl,fun t h=> ?_⟩,?_,HTW.o,HGW.o⟩
    ·omega
    ·rcases List.mem_append.1 h with h|h
     ·exact HX.o.2 t h
     ·rw [List.mem_singleton.1 h];exact HVW.o
    ·show Hid _
     rw [fm_snoc2];exact HOW.o
   case measure=>simp [intOf];omega
  ·have hlti: ¬(k:Int) <ts.l.length:=by omega
   obtain⟨hd,hv,hr⟩:=own_row (size:=3) (cells:=V.cells) (fun _=>rfl) (by decide) HO.o
   have hxl:=HX.o.1;have HFR:=ai (fun(hp:0<xs.length)=>own_from (hv▸HO.o) hp)
   have HV:=ai hv;have HR:=ai hr;clear hv hr;go_wp2;go_ret
   exact⟨⟨⟨hd,xs⟩,by rw [HV.o];rfl,⟨HR.o,HX.o.2⟩,HFR.o,by show xs.length≤_;omega⟩,⟨a+p,by omega,by omega,HTR.o⟩,HGR.o⟩
end Go.Proofs.YtogalchclmmfgaaDoor
namespace Go.Proofs.YtogalchclmmfgaaDoor
open Go.RowKit
structure Dep (D:Nat→Prop) (P:World→Prop) (w:World) :Prop where
 lt: ∀k,D k→k<w.heap.size
 hold: ∀w',(∀k,D k→w'.heap[k]? = w.heap[k]?)→P w'
theorem Dep.now {D:Nat→Prop} {P:World→Prop} {w:World} (h:Dep D P w) :P w:=h.hold w (fun _ _=>rfl)
theorem Dep.step {D:Nat→Prop} {P:World→Prop} {w w':World} (h:Dep D P w) (hs: ∀k,D k→w'.heap[k]? = w.heap[k]?) :Dep D P w':=by
 refine⟨fun k hk=> ?_,fun x hx=>h.hold x fun k hk=>(hx k hk).trans (hs k hk)⟩
 have h1:=hs k hk;have h2:=h.lt k hk;rw [Array.getElem?_eq_getElem h2]at h1;exact(Array.getElem?_eq_some_iff.1 h1).1
theorem Dep.grown {D:Nat→Prop} {P:World→Prop} {w w':World} {r:Option Nat} (h:Dep D P w) (hg:w.grownBy w' r) (hr: ∀g,r=some g→¬D g) :Dep D P w':=
 h.step fun k hk=>hg.block k (h.lt k hk) (fun e=>hr k e.symm hk)
theorem Dep.below {D:Nat→Prop} {P:World→Prop} {w w':World} (h:Dep D P w) (hb:Below w.heap.size w w') :Dep D P w':=h.grown (only_below hb none) (fun g e=>by cases e)
theorem Dep.wider {D D':Nat→Prop} {P:World→Prop} {w:World} (h:Dep D P w) (hd: ∀k,D k→D' k) (hl: ∀k,D' k→k<w.heap.size) :Dep D' P w:=
 ⟨hl,fun x hx=>h.hold x fun k hk=>hx k (hd k hk)⟩
theorem Dep.imp {D:Nat→Prop} {P Q:World→Prop} {w:World} (h:Dep D P w) (hpq: ∀x,P x→Q x) :Dep D Q w:=⟨h.lt,fun x hx=>hpq x (h.hold x hx)⟩
theorem Dep.any {D:Nat→Prop} {P:World→Prop} {w:World} (hl: ∀k,D k→k<w.heap.size) (h: ∀x,P x) :Dep D P w:=⟨hl,fun x _=>h x⟩
abbrev Seg (B E:Nat) :Nat→Prop:=fun k=>B≤k∧k<E
theorem row_same {α:Type} {w w':World} {size:Nat} {cells:α→List Value} {h:Hd} {xs:List α} (hr:Row w size cells h xs) (hk:0<xs.length→w'.heap[h.b]? = w.heap[h.b]?) :Row w' size cells h xs:=by
 obtain⟨h1,h2,h3,h4⟩:=hr;refine⟨h1,h2,fun hp=>⟨(h3 hp).1,?_⟩,fun i hi j v hv=> ?_⟩
 ·have e:=hk hp
  rw [Array.getElem?_eq_getElem (h3 hp).2]at e;exact(Array.getElem?_eq_some_iff.1 e).1
 ·rw [World.cell?_of_block (w:=w) (a:=⟨h.b,_,none⟩) (hk (by omega))]
  exact h4 i hi j v hv
theorem row_dep {α:Type} {D:Nat→Prop} {w:World} {size:Nat} {cells:α→List Value} {h:Hd} {xs:List α} (hr:Row w size cells h xs) (hD:0<xs.length→D h.b) (hl: ∀k,D k→k<w.heap.size) :Dep D (fun x=>Row x size cells h xs) w:=
 ⟨hl,fun _ hx=>row_same hr fun hp=>hx _ (hD hp)⟩
theorem ex_same {w w':World} {B:Nat} {e:Ex} (h:e.In w) (hf:e.Fresh B) (hs: ∀k,B≤k→k<w.heap.size→w'.heap[k]? = w.heap[k]?) :e.In w':=by
 induction h with
 | mk e hw hr hk ih=>
  cases hf with
  | mk _ hb hk'=>exact⟨e,hw,row_same hr (fun hp=>hs _ (hb hp) (hr.blk (i:=0) hp)),fun k hkk=>ih k hkk (hk' k hkk)⟩
theorem ex_dep {w:World} {B:Nat} {e:Ex} (h:e.In w) (hf:e.Fresh B) :Dep (Seg B w.heap.size) (fun x=>e.In x) w:=⟨fun _ hk=>hk.2,fun _ hx=>ex_same h hf fun k h1 h2=>hx k ⟨h1,h2⟩⟩
theorem il_dep {w:World} {B:Nat} {o:IL} (h:o.In w) (hf:0<o.l.length→B≤o.h.b) :Dep (Seg B w.heap.size) (fun x=>o.In x) w:=
 ⟨fun _ hk=>hk.2,fun _ hx=>⟨row_same h.1 fun hp=>hx _ ⟨hf hp,il_lt h hp⟩,h.2⟩⟩
theorem vl_dep {w:World} {B:Nat} {o:VL} (h:o.In w) (hf:0<o.l.length→B≤o.h.b) :Dep (Seg B w.heap.size) (fun x=>o.In x) w:=
 ⟨fun _ hk=>hk.2,fun _ hx=>⟨row_same h.1 fun hp=>hx _ ⟨hf hp,h.1.blk (i:=0) hp⟩,h.2⟩⟩
theorem own_same {w w':World} {B n size:Nat} {e:TypeId} {v:Value} {xs:List Value} (h:w.ownsRow B e size v n xs) (hs: ∀g,v.ownBlock=some g→w'.heap[g]? = w.heap[g]?) :w'.ownsRow B e size v n xs:=by
 refine⟨h.1,?_⟩
 rcases h.2 with h1| ⟨k,cap,cur,rfl,h2,h3,h4⟩
 ·exact .inl h1
 ·exact .inr ⟨k,cap,cur,rfl,h2,(hs k rfl).trans h3,h4⟩
def Els {α:Type} (P:α→World→Prop) (B:Nat) (X:Nat→Prop) (z:World) (xs:List α) :Prop:=∀x∈xs,Dep (fun k=>(B≤k∧k<z.heap.size)∧¬X k) (P x) z
theorem Els.nil {α:Type} {P:α→World→Prop} {B:Nat} {X:Nat→Prop} {z:World} : Els P B X z []:=fun _ hx=>absurd hx List.not_mem_nil
theorem Els.step {α:Type} {P:α→World→Prop} {B:Nat} {X X':Nat→Prop} {z z':World} {xs:List α} {r:Option Nat} (h:Els P B X z xs) (hg:z.grownBy z' r) (hr: ∀g,r=some g→g<B∨z.heap.size≤g∨X g) (hX: ∀k,X' k→X k∨z.heap.size≤k) :Els P B X' z' xs:=fun x hx=>
 ((h x hx).grown hg (fun g e hD=>by rcases hr g e with h1|h1|h1<;>first|omega|exact hD.2 h1)).wider (fun k hk=>⟨⟨hk.1.1,Nat.lt_of_lt_of_le hk.1.2 hg.size⟩,fun h2=>by rcases hX k h2 with h3|h3<;>first|exact hk.2 h3|omega⟩) (fun k hk=>hk.1.2)
theorem Els.snoc {α:Type} {P:α→World→Prop} {B:Nat} {X D:Nat→Prop} {z:World} {xs:List α} {x:α} (h:Els P B X z xs) (hx:Dep D (P x) z) (hD: ∀k,D k→B≤k∧¬X k) :Els P B X z (xs ++ [x]):=fun y hy=>by
 rcases List.mem_append.1 hy with hy|hy
 ·exact h y hy
 ·rw [List.mem_singleton.1 hy]
  exact hx.wider (fun k hk=>⟨⟨(hD k hk).1,hx.lt k hk⟩,(hD k hk).2⟩) (fun k hk=>hk.1.2)
def Qu.rb (q:Qu) (g:Nat) :Prop:=q.eh.ob=some g∨q.ah.ob=some g∨q.types.h.ob=some g
structure QD (B E:Nat) (w:World) (q:Qu) :Prop where
 wf:int64 q.op∧q.table.size≤maxLen∧int64 q.kind∧∀t∈q.types.l,int64 t
 le:E≤w.heap.size
 rows:q.rows3 B w
 rlt: ∀g,q.rb g→g<E
 rest:Dep (fun k=>(B≤k∧k<E)∧¬q.rb k) (fun x=>q.rest x) w
theorem QD.inn {B E:Nat} {w:World} {q:Qu} (h:QD B E w q) :q.In w:=Qu.mk_in h.wf h.rows h.rest.now
theorem rows3_ge {B:Nat} {w:World} {q:Qu} (h:q.rows3 B w) {g:Nat} (hg:q.rb g) :B≤g:=by
 rcases hg with e|e|e
 ·exact(own_ob h.oe e).1
 ·exact(own_ob h.oa e).1
 ·exact(own_ob h.ot e).1
theorem rows3_same {B:Nat} {w w':World} {q:Qu} (h:q.rows3 B w) (hs: ∀g,q.rb g→w'.heap[g]? = w.heap[g]?) :q.rows3 B w' where
 oe:=own_same h.oe fun g e=>hs g (.inl (by rw [Hd.ob_eq]at e;exact e))
 oa:=own_same h.oa fun g e=>hs g (.inr (.inl (by rw [Hd.ob_eq]at e;exact e)))
 ot:=own_same h.ot fun g e=>hs g (.inr (.inr (by rw [Hd.ob_eq]at e;exact e)))
theorem QD.step {B E:Nat} {w w':World} {q:Qu} (h:QD B E w q) (hs: ∀k,Seg B E k→w'.heap[k]? = w.heap[k]?) (hl:E≤w'.heap.size) :QD B E w' q where
 wf:=h.wf
 le:=hl
 rows:=rows3_same h.rows fun g hg=>hs g ⟨rows3_ge h.rows hg,h.rlt g hg⟩
 rlt:=h.rlt
 rest:=h.rest.step fun k hk=>hs k hk.1
theorem QD.dep {B E:Nat} {w:World} {q:Qu} (h:QD B E w q) :Dep (Seg B E) (fun x=>q.In x) w:=by
 refine⟨fun k hk=>Nat.lt_of_lt_of_le hk.2 h.le,fun x hx=> ?_⟩
 exact Qu.mk_in h.wf (rows3_same h.rows fun g hg=>hx g ⟨rows3_ge h.rows hg,h.rlt g hg⟩) (h.rest.hold x fun k hk=>hx k hk.1)
theorem QD.grown {B E:Nat} {w w':World} {q:Qu} {r:Option Nat} (h:QD B E w q) (hg:w.grownBy w' r) (hr: ∀g,r=some g→g<B∨E≤g) :QD B E w' q:=
 h.step (fun k hk=>hg.block k (Nat.lt_of_lt_of_le hk.2 h.le) (fun e=>by have:=hr k e.symm;omega)) (Nat.le_trans h.le hg.size)
theorem QD.wide {B B' E E':Nat} {w:World} {q:Qu} (h:QD B E w q) (hB:B'≤B) (hE:E≤E') (hw:E'≤w.heap.size) :QD B' E' w q where
 wf:=h.wf
 le:=hw
 rows:=⟨base_own h.rows.oe hB,base_own h.rows.oa hB,base_own h.rows.ot hB⟩
 rlt:=fun g hg=>Nat.lt_of_lt_of_le (h.rlt g hg) hE
 rest:=h.rest.wider (fun _ hk=>⟨⟨Nat.le_trans hB hk.1.1,Nat.lt_of_lt_of_le hk.1.2 hE⟩,hk.2⟩) (fun _ hk=>Nat.lt_of_lt_of_le hk.1.2 hw)
theorem rows3_nil (B:Nat) (w:World) {q:Qu} (he:q.eh=nilHd∧q.exprs = []) (ha:q.ah=nilHd∧q.aggs = []) (ht:q.types= ⟨nilHd,[]⟩) :q.rows3 B w where
 oe:=by rw [he.1,he.2];exact World.ownsRow_nil _ _ _ _
 oa:=by rw [ha.1,ha.2];exact World.ownsRow_nil _ _ _ _
 ot:=by rw [ht];exact World.ownsRow_nil _ _ _ _
theorem rb_nil {q:Qu} (he:q.eh=nilHd) (ha:q.ah=nilHd) (ht:q.types= ⟨nilHd,[]⟩) (g:Nat) : ¬q.rb g:=by
 rintro (h|h|h)
 ·rw [he]at h;cases h
 ·rw [ha]at h;cases h
 ·rw [ht]at h;cases h
theorem QD.mk0 {B E:Nat} {w:World} {q:Qu} (hE:E≤w.heap.size) (hw:int64 q.op∧q.table.size≤maxLen∧int64 q.kind) (he:q.eh=nilHd∧q.exprs = []) (ha:q.ah=nilHd∧q.aggs = []) (ht:q.types= ⟨nilHd,[]⟩) (hr:q.rh=nilHd∧q.rows = [])
  (hc:Dep (Seg B E) (fun x=>q.cond.In x) w) (hrk:Dep (Seg B E) (fun x=>Row x 15 Qu.cells q.qh q.kids) w) (hks: ∀k∈q.kids,Dep (Seg B E) (fun x=>k.In x) w) :QD B E w q where
 wf:=⟨hw.1,hw.2.1,hw.2.2,fun t h=>by rw [ht]at h;cases h⟩
 le:=hE
 rows:=rows3_nil B w he ha ht
 rlt:=fun g hg=>absurd hg (rb_nil he.1 ha.1 ht g)
 rest:=by
  refine⟨fun k hk=>Nat.lt_of_lt_of_le hk.1.2 hE,fun x hx=> ?_⟩
  have hx': ∀k,Seg B E k→x.heap[k]? = w.heap[k]? :=fun k hk=>hx k ⟨hk,rb_nil he.1 ha.1 ht k⟩
  exact⟨hc.hold x hx',(fun e h=>by rw [he.2]at h;cases h),(fun e h=>by rw [ha.2]at h;cases h),(by rw [hr.1,hr.2];exact Row.nil _ _ _),(fun e h=>by rw [hr.2]at h;cases h),hrk.hold x hx',fun k hk=>(hks k hk).hold x hx'⟩
theorem zero_dep {D:Nat→Prop} {w:World} (hl: ∀k,D k→k<w.heap.size) :Dep D (fun x=>(leafEx 0 0 0 ⟨#[]⟩ 0).In x) w:=Dep.any hl fun x=>leaf_in z64 z64 z64 (by show(0:Nat)≤maxLen;omega) z64 x
structure SKd (b:Nat) (s:Sch) (E:Nat) (w:World) :Prop where
 dep:Dep (fun k=>k<E∧k≠b) (fun x=>s.In x) w
 nt:1≤s.tabs.length∧s.tabs.length≤3
 nc: ∀t∈s.tabs,1≤t.cols.length∧t.cols.length≤8
 ct: ∀t∈s.tabs,∀c∈t.cols,isT c.typ=true
 nm: ∀i (h:i<s.tabs.length),fok (named s.tabs[i].name) s.tabs=true∧fi (named s.tabs[i].name) s.tabs= (i:Int)
theorem SKd.grown {b E g:Nat} {s:Sch} {w w':World} (h:SKd b s E w) (hg:w.grownBy w' (some g)) (hh:g=b∨E≤g) :SKd b s E w':=
 ⟨h.dep.grown hg (fun k e hk=>by injection e with e;omega),h.nt,h.nc,h.ct,h.nm⟩
theorem SKd.tape {b E:Nat} {s:Sch} {w w':World} (h:SKd b s E w) (hg:w.grownBy w' (some b)) :SKd b s E w':=h.grown hg (.inl rfl)
theorem SKd.below {b E:Nat} {s:Sch} {w w':World} (h:SKd b s E w) (hb:Below w.heap.size w w') :SKd b s E w':=h.tape (only_below hb _)
structure QO (s:Sch) (B E:Nat) (w:World) (q:Qu) (o:IL) (N:Nat) :Prop where
 qd:QD B E w q
 od:Dep (Seg B E) (fun x=>o.In x) w
 ofr:0<o.l.length→B≤o.h.b
 ole:o.l.length≤8
 oty: ∀t∈o.l,isT t=true
 sz:q.size≤N
 wt:q.wt≤N
 sc:q.op=1→fok (named q.table) s.tabs=true
 mq: (q.tq s).1=0→(q.tq s).2=o.l
 bg:q.cond.size+Ex.sizes q.exprs+ (q.aggs.map fun a=>a.arg.size).sum≤100
 tl:q.types.l.length≤100
theorem QO.grown {s:Sch} {B E:Nat} {w w':World} {q:Qu} {o:IL} {N:Nat} {r:Option Nat} (h:QO s B E w q o N) (hg:w.grownBy w' r) (hr: ∀g,r=some g→g<B∨E≤g) :QO s B E w' q o N:=
 { h with qd:=h.qd.grown hg hr,od:=h.od.grown hg (fun g e hk=>by have h1:=hr g e;have h2:B≤g∧g<E:=hk;omega) }
theorem QO.tape {s:Sch} {B E b:Nat} {w w':World} {q:Qu} {o:IL} {N:Nat} (h:QO s B E w q o N) (hg:w.grownBy w' (some b)) (hb:b<B) :QO s B E w' q o N:=h.grown hg (fun g e=>by injection e with e;omega)
theorem QO.below {s:Sch} {B E:Nat} {w w':World} {q:Qu} {o:IL} {N:Nat} (h:QO s B E w q o N) (hb:Below w.heap.size w w') :QO s B E w' q o N:=h.grown (only_below hb none) (fun g e=>by cases e)
theorem QO.wide {s:Sch} {B B' E E':Nat} {w:World} {q:Qu} {o:IL} {N N':Nat} (h:QO s B E w q o N) (hB:B'≤B) (hE:E≤E') (hw:E'≤w.heap.size) (hN:N≤N') :QO s B' E' w q o N':=
 { h with qd:=h.qd.wide hB hE hw,od:=h.od.wider (fun _ hk=>⟨Nat.le_trans hB hk.1,Nat.lt_of_lt_of_le hk.2 hE⟩) (fun _ hk=>Nat.lt_of_lt_of_le hk.2 hw),ofr:=fun hp=>Nat.le_trans hB (h.ofr hp),sz:=Nat.le_trans h.sz hN,wt:=Nat.le_trans h.wt hN }
def QOut (s:Sch) (w w':World) (b a n N:Nat) (L:IL) (e:Ending) :Prop:=
 (∃(q:Qu) (o:IL),e = .returned (.tuple #[.agg #[.int .i64 q.op,.string q.table,.int .i64 q.kind,.bool q.all,.int .i64 q.cond.op,.int .i64 q.cond.typ,.int .i64 q.cond.num,.string q.cond.text,.int .i64 q.cond.col,.slice q.cond.kh.ao q.cond.kids.length q.cond.kh.cap,.slice q.eh.ao q.exprs.length q.eh.cap,.slice q.ah.ao q.aggs.length q.ah.cap,.slice q.types.h.ao q.types.l.length q.types.h.cap,.slice q.rh.ao q.rows.length q.rh.cap,.slice q.qh.ao q.kids.length q.qh.cap],.slice o.h.ao o.l.length o.h.cap])∧QO s w.heap.size w'.heap.size w' q o N)∧(∃a',a≤a'∧a'≤a+n∧TapeIn w' b L a')∧w.grownBy w' (some b)
def QryAt (n N:Nat) (d:Int) :Prop:=∀(w:World) (b a:Nat) (L:IL) (s:Sch) (E:Nat),SKd b s E w→E≤w.heap.size→TapeIn w b L a→a+n≤4611686018427370000→
  Calls Tryd.prog 13 #[.pointer (some ⟨b,0,none⟩),.agg #[.slice s.th.ao s.tabs.length s.th.cap],.int .i64 d] w fun e w'=>QOut s w w' b a n N L e
theorem set15 (w:World) (g:Nat) (v0 v1 v2 v3 v4 v5 v6 v7 v8 v9 v10 v11 v12 v13 v14:Value) :w.grownBy (((((((((((((((w.setCell ⟨g,0,none⟩ v0).setCell ⟨g,1,none⟩ v1).setCell ⟨g,2,none⟩ v2).setCell ⟨g,3,none⟩ v3).setCell ⟨g,4,none⟩ v4).setCell ⟨g,5,none⟩ v5).setCell ⟨g,6,none⟩ v6).setCell ⟨g,7,none⟩ v7).setCell ⟨g,8,none⟩ v8).setCell ⟨g,9,none⟩ v9).setCell ⟨g,10,none⟩ v10).setCell ⟨g,11,none⟩ v11).setCell ⟨g,12,none⟩ v12).setCell ⟨g,13,none⟩ v13).setCell ⟨g,14,none⟩ v14) (some g):=
 ((((((((((((((gb_set _ _ _ _).trans (gb_set _ _ _ _)).trans (gb_set _ _ _ _)).trans (gb_set _ _ _ _)).trans (gb_set _ _ _ _)).trans (gb_set _ _ _ _)).trans (gb_set _ _ _ _)).trans (gb_set _ _ _ _)).trans (gb_set _ _ _ _)).trans (gb_set _ _ _ _)).trans (gb_set _ _ _ _)).trans (gb_set _ _ _ _)).trans (gb_set _ _ _ _)).trans (gb_set _ _ _ _)).trans (gb_set _ _ _ _)
theorem q_done {s:Sch} {w x:World} {b a a' n N N0 r B E:Nat} {L:IL} {q:Qu} {o:IL} (hq:QO s B E x q o N0) (hN:N0≤N) (hr:w.heap.size≤r) (hB:r<B) (h1:a≤a') (h2:a'≤a+n) (ht:TapeIn x b L a') (hg:w.grownBy x (some b)) (hL:b<w.heap.size∧(0<L.l.length→L.h.b<w.heap.size)) :
  QOut s w (((((((((((((((x.setCell ⟨r,0,none⟩ (.int .i64 q.op)).setCell ⟨r,1,none⟩ (.string q.table)).setCell ⟨r,2,none⟩ (.int .i64 q.kind)).setCell ⟨r,3,none⟩ (.bool q.all)).setCell ⟨r,4,none⟩ (.int .i64 q.cond.op)).setCell ⟨r,5,none⟩ (.int .i64 q.cond.typ)).setCell ⟨r,6,none⟩ (.int .i64 q.cond.num)).setCell ⟨r,7,none⟩ (.string q.cond.text)).setCell ⟨r,8,none⟩ (.int .i64 q.cond.col)).setCell ⟨r,9,none⟩ (.slice q.cond.kh.ao q.cond.kids.length q.cond.kh.cap)).setCell ⟨r,10,none⟩ (.slice q.eh.ao q.exprs.length q.eh.cap)).setCell ⟨r,11,none⟩ (.slice q.ah.ao q.aggs.length q.ah.cap)).setCell ⟨r,12,none⟩ (.slice q.types.h.ao q.types.l.length q.types.h.cap)).setCell ⟨r,13,none⟩ (.slice q.rh.ao q.rows.length q.rh.cap)).setCell ⟨r,14,none⟩ (.slice q.qh.ao q.kids.length q.qh.cap)) b a n N L
   (.returned (.tuple #[.agg #[.int .i64 q.op,.string q.table,.int .i64 q.kind,.bool q.all,.int .i64 q.cond.op,.int .i64 q.cond.typ,.int .i64 q.cond.num,.string q.cond.text,.int .i64 q.cond.col,.slice q.cond.kh.ao q.cond.kids.length q.cond.kh.cap,.slice q.eh.ao q.exprs.length q.eh.cap,.slice q.ah.ao q.aggs.length q.ah.cap,.slice q.types.h.ao q.types.l.length q.types.h.cap,.slice q.rh.ao q.rows.length q.rh.cap,.slice q.qh.ao q.kids.length q.qh.cap],.slice o.h.ao o.l.length o.h.cap])):=by
 have hs:=set15 x r (.int .i64 q.op) (.string q.table) (.int .i64 q.kind) (.bool q.all) (.int .i64 q.cond.op) (.int .i64 q.cond.typ) (.int .i64 q.cond.num) (.string q.cond.text) (.int .i64 q.cond.col) (.slice q.cond.kh.ao q.cond.kids.length q.cond.kh.cap) (.slice q.eh.ao q.exprs.length q.eh.cap) (.slice q.ah.ao q.aggs.length q.ah.cap) (.slice q.types.h.ao q.types.l.length q.types.h.cap) (.slice q.rh.ao q.rows.length q.rh.cap) (.slice q.qh.ao q.kids.length q.qh.cap);have h3:=(hq.grown hs (fun g e=>by injection e with e;omega))
 exact⟨⟨q,o,rfl,h3.wide (by omega) h3.qd.le (Nat.le_refl _) hN⟩,⟨a',h1,h2,tz2 ht hs hL hr⟩,gb_then hg hs hr⟩
end Go.Proofs.YtogalchclmmfgaaDoor
namespace Go.Proofs.YtogalchclmmfgaaDoor
open Go.RowKit
theorem il_same {z w':World} {x:IL} (h:x.In z) (hs:0<x.l.length→w'.heap[x.h.b]? = z.heap[x.h.b]?) :x.In w':=⟨row_same h.1 hs,h.2⟩
theorem tab_same {z w':World} {B:Nat} {t:Tab} (h:TI z B t) (hs: ∀k,B≤k→k<z.heap.size→w'.heap[k]? = z.heap[k]?) :t.In w' where
 nm:=h.inn.nm
 rc:=row_of_own (fun _=>rfl) (by decide) (own_same h.oc fun g e=>hs g (own_ob h.oc (by rw [Hd.ob_eq]at e;exact e)).1 (own_ob h.oc (by rw [Hd.ob_eq]at e;exact e)).2.1)
 cs:=h.inn.cs
 rp:=il_same h.inn.rp fun _=>hs _ h.pr.ge h.pr.lt
 ru:=row_of_own (fun _=>rfl) (by decide) (own_same h.ou fun g e=>hs g (own_ob h.ou (by rw [Hd.ob_eq]at e;exact e)).1 (own_ob h.ou (by rw [Hd.ob_eq]at e;exact e)).2.1)
 us:=fun u hu=>il_same (h.inn.us u hu) fun _=>hs _ (h.us u hu).ge (h.us u hu).lt
 rf:=row_of_own (fun _=>rfl) (by decide) (own_same h.of fun g e=>hs g (own_ob h.of (by rw [Hd.ob_eq]at e;exact e)).1 (own_ob h.of (by rw [Hd.ob_eq]at e;exact e)).2.1)
 fs:=fun f hf=>⟨il_same (h.inn.fs f hf).1 fun _=>hs _ (h.fs f hf).1.ge (h.fs f hf).1.lt,(h.inn.fs f hf).2⟩
 rk:=row_of_own (fun _=>rfl) (by decide) (own_same h.ok fun g e=>hs g (own_ob h.ok (by rw [Hd.ob_eq]at e;exact e)).1 (own_ob h.ok (by rw [Hd.ob_eq]at e;exact e)).2.1)
 ks:=fun k hk=>ex_same (h.ks k hk).1 (h.ks k hk).2.1 hs
theorem tnm_ne {i j:Nat} (hj:j<i) (hi:i<3) : ((tnm j).toList == (tnm i).toList) =false:=by
 have h: (j=0∧i=1)∨(j=0∧i=2)∨(j=1∧i=2):=by omega
 rcases h with⟨rfl,rfl⟩ | ⟨rfl,rfl⟩ | ⟨rfl,rfl⟩<;>decide +kernel
theorem SchOut.skd {w z:World} {b a:Nat} {L:IL} {h:Hd} {ts:List Tab} (so:SchOut w z b L a h ts) (hb:b<w.heap.size) (h1:1≤ts.length) (h3:ts.length≤3) :SKd b ⟨h,ts⟩ z.heap.size z where
 dep:=⟨fun k hk=>hk.1,fun w' hw=>⟨row_of_own (fun _=>rfl) (by decide) (own_same so.own fun g e=>hw g ⟨(own_ob so.own (by rw [Hd.ob_eq]at e;exact e)).2.1,by have:=(own_ob so.own (by rw [Hd.ob_eq]at e;exact e)).1;omega⟩),fun t ht=>tab_same (so.tis t ht).1 fun k h1 h2=>hw k ⟨h2,by omega⟩⟩⟩
 nt:=⟨h1,h3⟩
 nc:=fun t ht=>(so.tis t ht).2.nc
 ct:=so.cts
 nm:=fun i hi=>by
  have hi':i<ts.length:=hi;have:=fi_hit (p:=named ts[i].name) (xs:=ts) hi' (by simp [named]) (fun j hj hji=>by
   unfold named
   rw [so.nms j hj,so.nms i hi'];exact tnm_ne hji (by omega))
  exact⟨this.2,this.1⟩
theorem size_bd (q q':Qu) {M:Nat} (hr:q'.rows=q.rows) (hk:q'.kids=q.kids) (hb:q'.cond.size+Ex.sizes q'.exprs+ (q'.aggs.map fun a=>a.arg.size).sum≤M) :q'.size≤q.size+M:=by
 have h1:q'.csz≤q'.cond.size:=by unfold Qu.csz;split<;>omega
 have h2:q'.esz≤Ex.sizes q'.exprs:=by unfold Qu.esz;split<;>omega
 have h3: ∀l:List Agg,(l.map asize).sum≤(l.map fun a=>a.arg.size).sum:=fun l=>by
  induction l with
  | nil=>simp
  | cons x l ih=>
   have:asize x≤x.arg.size:=by unfold asize;split<;>omega
   simp only [List.map_cons,List.sum_cons];omega
 have h4:q'.asz≤(q'.aggs.map fun a=>a.arg.size).sum:=by
  have:=h3 q'.aggs
  unfold Qu.asz
  split<;>omega
 rw [Qu.size_eq q',Qu.size_eq q,hr,hk];omega
section
variable {B E:Nat} {w w1 z z':World} {q:Qu} {g cap g9:Nat}
theorem QD.op (h:QD B E w q) {t:Int} (ht:int64 t) : ({ q with op:=t } : Qu).In w:=
 Qu.mk_in (B:=B) (q:= { q with op:=t }) ⟨ht,h.wf.2.1,h.wf.2.2.1,h.wf.2.2.2⟩ ⟨h.rows.oe,h.rows.oa,h.rows.ot⟩ ⟨h.rest.now.cd,h.rest.now.es,h.rest.now.ag,h.rest.now.rr,h.rest.now.rs,h.rest.now.rk,h.rest.now.ks⟩
theorem QD.kind (h:QD B E w q) {t:Int} (ht:int64 t) : ({ q with kind:=t } : Qu).In w:=
 Qu.mk_in (B:=B) (q:= { q with kind:=t }) ⟨h.wf.1,h.wf.2.1,ht,h.wf.2.2.2⟩ ⟨h.rows.oe,h.rows.oa,h.rows.ot⟩ ⟨h.rest.now.cd,h.rest.now.es,h.rest.now.ag,h.rest.now.rr,h.rest.now.rs,h.rest.now.rk,h.rest.now.ks⟩
theorem QD.all (h:QD B E w q) (v:Bool) : ({ q with all:=v } : Qu).In w:=
 Qu.mk_in (B:=B) (q:= { q with all:=v }) h.wf ⟨h.rows.oe,h.rows.oa,h.rows.ot⟩ ⟨h.rest.now.cd,h.rest.now.es,h.rest.now.ag,h.rest.now.rr,h.rest.now.rs,h.rest.now.rk,h.rest.now.ks⟩
theorem QD.cond (h:QD B E w q) {e:Ex} (he:e.In w) : ({ q with cond:=e } : Qu).In w:=
 Qu.mk_in (B:=B) (q:= { q with cond:=e }) h.wf ⟨h.rows.oe,h.rows.oa,h.rows.ot⟩ ⟨he,h.rest.now.es,h.rest.now.ag,h.rest.now.rr,h.rest.now.rs,h.rest.now.rk,h.rest.now.ks⟩
theorem QD.kids (h:QD B E w q) {qh:Hd} {l:List Qu} (hr:Row w 15 Qu.cells qh l) (hl: ∀x∈l,x.In w) : ({ q with qh:=qh,kids:=l } : Qu).In w:=
 Qu.mk_in (B:=B) (q:= { q with qh:=qh,kids:=l }) h.wf ⟨h.rows.oe,h.rows.oa,h.rows.ot⟩ ⟨h.rest.now.cd,h.rest.now.es,h.rest.now.ag,h.rest.now.rr,h.rest.now.rs,hr,hl⟩
theorem QD.two (h:QD B E w1 q) {r:Option Nat} (hg:w1.grownBy z r) (hr: ∀k,r=some k→q.rb k) (hs:z.grownBy z' (some g9)) (h9:E≤g9) :q.rest z':=
 h.rest.hold z' fun k hk=>by
  have h1:k<w1.heap.size:=Nat.lt_of_lt_of_le hk.1.2 h.le;have h2:=hg.block k h1 (fun e=>hk.2 (hr k e.symm))
  rw [←h2];exact hs.block k (Nat.lt_of_lt_of_le h1 hg.size) (fun e=>by injection e with e;have:=hk.1.2;omega)
theorem ob9 {z z':World} {B n size:Nat} {e:TypeId} {h:Hd} {xs:List Value} {cs:Array Value} {T:TypeId} (ho:z.ownsRow B e size (.slice h.ao n h.cap) n xs) (hb:Box z g9 cs T) (hT:e≠T) (hs:z.grownBy z' (some g9)) :z'.ownsRow B e size (.slice h.ao n h.cap) n xs:=
 own_keep ho hs fun g e' e''=>by injection e' with e';subst e';exact own_box_ne ho hb hT e''
theorem QD.addE {cs:Array Value} (h:QD B E w1 q) {x:Ex} (hx: ∀u,x.In u) (ho:z.ownsRow B 45 6 (.slice (some ⟨g,0,none⟩) (q.exprs.length+1) cap) (q.exprs.length+1) (q.exprs.flatMap Ex.cells ++ Ex.cells x)) (hg:w1.grownBy z (Value.slice q.eh.ao q.exprs.length q.eh.cap).ownBlock)
  (hb:Box z g9 cs 57) (hs:z.grownBy z' (some g9)) (h9:E≤g9) : ({ q with eh:=⟨some ⟨g,0,none⟩,cap⟩,exprs:=q.exprs ++ [x] } : Qu).In z':=by
 rw [Hd.ob_eq]at hg;have hr:=h.two hg (fun k e=>.inl e) hs h9
 have hoe:z.ownsRow B 45 6 (.slice (⟨some ⟨g,0,none⟩,cap⟩ :Hd).ao (q.exprs ++ [x]).length (⟨some ⟨g,0,none⟩,cap⟩ :Hd).cap) (q.exprs ++ [x]).length ((q.exprs ++ [x]).flatMap Ex.cells):=by rw [fm_snoc,List.length_append];exact ho
 refine Qu.mk_in (B:=B) (q:= { q with eh:=⟨some ⟨g,0,none⟩,cap⟩,exprs:=q.exprs ++ [x] }) h.wf ⟨ob9 hoe hb (by decide) hs,ob9 (own_keep h.rows.oa hg fun g e=>own_ob_ne h.rows.oa h.rows.oe (by decide) e) hb (by decide) hs,ob9 (own_keep h.rows.ot hg fun g e=>own_ob_ne h.rows.ot h.rows.oe (by decide) e) hb (by decide) hs⟩ ⟨hr.cd,fun e he=> ?_,hr.ag,hr.rr,hr.rs,hr.rk,hr.ks⟩
 rcases List.mem_append.1 he with he|he
 ·exact hr.es e he
 ·rw [List.mem_singleton.1 he];exact hx z'
theorem QD.addA {cs:Array Value} (h:QD B E w1 q) {x:Agg} (hx: ∀u,x.arg.In u) (hfn:int64 x.fn) (ho:z.ownsRow B 63 7 (.slice (some ⟨g,0,none⟩) (q.aggs.length+1) cap) (q.aggs.length+1) (q.aggs.flatMap Agg.cells ++ Agg.cells x)) (hg:w1.grownBy z (Value.slice q.ah.ao q.aggs.length q.ah.cap).ownBlock)
  (hb:Box z g9 cs 57) (hs:z.grownBy z' (some g9)) (h9:E≤g9) : ({ q with ah:=⟨some ⟨g,0,none⟩,cap⟩,aggs:=q.aggs ++ [x] } : Qu).In z':=by
 rw [Hd.ob_eq]at hg;have hr:=h.two hg (fun k e=>.inr (.inl e)) hs h9
 have hoe:z.ownsRow B 63 7 (.slice (⟨some ⟨g,0,none⟩,cap⟩ :Hd).ao (q.aggs ++ [x]).length (⟨some ⟨g,0,none⟩,cap⟩ :Hd).cap) (q.aggs ++ [x]).length ((q.aggs ++ [x]).flatMap Agg.cells):=by rw [fm_snoc,List.length_append];exact ho
 refine Qu.mk_in (B:=B) (q:= { q with ah:=⟨some ⟨g,0,none⟩,cap⟩,aggs:=q.aggs ++ [x] }) h.wf ⟨ob9 (own_keep h.rows.oe hg fun g e=>own_ob_ne h.rows.oe h.rows.oa (by decide) e) hb (by decide) hs,ob9 hoe hb (by decide) hs,ob9 (own_keep h.rows.ot hg fun g e=>own_ob_ne h.rows.ot h.rows.oa (by decide) e) hb (by decide) hs⟩ ⟨hr.cd,hr.es,fun e he=> ?_,hr.rr,hr.rs,hr.rk,hr.ks⟩
 rcases List.mem_append.1 he with he|he
 ·exact hr.ag e he
 ·rw [List.mem_singleton.1 he];exact⟨hfn,hx z'⟩
theorem QD.addT {cs:Array Value} (h:QD B E w1 q) {t:Int} (ht:int64 t) (ho:z.ownsRow B 3 1 (.slice (some ⟨g,0,none⟩) (q.types.l.length+1) cap) (q.types.l.length+1) (q.types.l.flatMap icells ++ icells t)) (hg:w1.grownBy z (Value.slice q.types.h.ao q.types.l.length q.types.h.cap).ownBlock)
  (hb:Box z g9 cs 57) (hs:z.grownBy z' (some g9)) (h9:E≤g9) : ({ q with types:=⟨⟨some ⟨g,0,none⟩,cap⟩,q.types.l ++ [t]⟩ } : Qu).In z':=by
 rw [Hd.ob_eq]at hg;have hr:=h.two hg (fun k e=>.inr (.inr e)) hs h9
 have hoe:z.ownsRow B 3 1 (.slice (⟨some ⟨g,0,none⟩,cap⟩ :Hd).ao (q.types.l ++ [t]).length (⟨some ⟨g,0,none⟩,cap⟩ :Hd).cap) (q.types.l ++ [t]).length ((q.types.l ++ [t]).flatMap icells):=by rw [fm_snoc,List.length_append];exact ho
 refine Qu.mk_in (B:=B) (q:= { q with types:=⟨⟨some ⟨g,0,none⟩,cap⟩,q.types.l ++ [t]⟩ }) ⟨h.wf.1,h.wf.2.1,h.wf.2.2.1,fun u hu=> ?_⟩ ⟨ob9 (own_keep h.rows.oe hg fun g e=>own_ob_ne h.rows.oe h.rows.ot (by decide) e) hb (by decide) hs,ob9 (own_keep h.rows.oa hg fun g e=>own_ob_ne h.rows.oa h.rows.ot (by decide) e) hb (by decide) hs,ob9 hoe hb (by decide) hs⟩ ⟨hr.cd,hr.es,hr.ag,hr.rr,hr.rs,hr.rk,hr.ks⟩
 rcases List.mem_append.1 hu with hu|hu
 ·exact h.wf.2.2.2 u hu
 ·rw [List.mem_singleton.1 hu];exact ht
end
def MQ (w:World) (s:Sch) (g8 g9:Nat) (wx:World) :Prop:=
 ∃q:Qu,q.In wx∧q.size≤1000000∧q.wt≤1048576∧Box wx g9 q.cells.toArray 57∧Box wx g8 #[.slice s.th.ao s.tabs.length s.th.cap] 28∧s.In wx∧Below w.heap.size w wx
end Go.Proofs.YtogalchclmmfgaaDoor
namespace Go.Proofs.YtogalchclmmfgaaDoor
open Go.RowKit
theorem inteq_any (a b:IL) (w:World) (ha:a.In w) (hb:b.In w) :
  Calls Tryd.prog 68 #[.slice a.h.ao a.l.length a.h.cap,.slice b.h.ao b.l.length b.h.cap] w fun e w'=>e = .returned (.bool (eqb a.l b.l))∧Below w.heap.size w w':=by
 have hna:=ha.1.len;have hnb:=hb.1.len;by_cases hl:a.l.length=b.l.length
 ·have hl': (((a.l.length:Nat) :Int) != ((b.l.length:Nat) :Int)) =false:=by simp [hl]
  have HL:=ai hl;clear hl
  go_enter Tryd.func68,Tryd.ntmps68;go_wp2;clear hl';go_loopw [13] (fun i wr=>∃k:Nat,k≤a.l.length∧i = .int .i64 k∧(∀j (ha:j<a.l.length) (hb:j<b.l.length),j<k→a.l[j] =b.l[j])∧Below w.heap.size w wr) (fun i _=>a.l.length - (intOf i).toNat)
  case atStart=>exact⟨0,Nat.zero_le _,rfl,fun j _ _ h=>absurd h (by omega),Below.refl _ _⟩
  case round=>
   obtain⟨k,hk,rfl,hno,hbw⟩:=hrel;have HN:=ai hno;have HB:=ai hbw;have ha':=ha.mono hbw;have hb':=hb.mono hbw;clear hno hbw;by_cases hlt:k<a.l.length
   ·have hltb:k<b.l.length:=by rw [←HL.o];exact hlt
    have hix:=IL.ix ha' hlt;have hjx:=IL.ix hb' hltb;have c0:=int_at ha'.1 hlt;have d0:=int_at hb'.1 hltb;by_cases hp:a.l[k] =b.l[k]
    ·have hp': (a.l[k] != b.l[k]) =false:=by simp [hp]
     have HP:=ai hp;clear hp;go_wp2
     go_quiet (fail)
     go_wp2;go_roundw
     case rel=>
      refine⟨k+1,by omega,by go_num,fun j hj hj2 h=> ?_,below_drewN HB.o _⟩
      by_cases e:j=k
      ·subst e;exact HP.o
      ·exact HN.o j hj hj2 (by omega)
     case measure=>simp [intOf];omega
    ·have hp': (a.l[k] != b.l[k]) =true:=by simpa using hp
     have HP:=ai hp;clear hp;go_wp2
     go_quiet (fail)
     go_wp2;go_ret
     exact⟨retb (eqb_no (ne_of_at hlt hltb HP.o)).symm,below_drewN HB.o _⟩
   ·go_wp2
    go_ret
    exact⟨retb (eqb_yes (eq_of_all HL.o (fun j h1 h2=>HN.o j h1 h2 (by omega)))).symm,HB.o⟩
 ·have hl': (((a.l.length:Nat) :Int) != ((b.l.length:Nat) :Int)) =true:=by simp;omega
  have HL:=ai hl;clear hl
  go_enter Tryd.func68,Tryd.ntmps68;go_wp2;go_ret
  exact⟨retb (eqb_no (fun e=>HL.o (by rw [e]))).symm,Below.refl _ _⟩
theorem rints_any (a b:IL) (w:World) (ha:a.In w) (hb:b.In w) :
  Calls Tryd.prog 77 #[.slice a.h.ao a.l.length a.h.cap,.slice b.h.ao b.l.length b.h.cap] w fun e w'=>e = .returned (.bool (eqb a.l b.l))∧Below w.heap.size w w':=by
 have hna:=ha.1.len;have hnb:=hb.1.len;by_cases hl:a.l.length=b.l.length
 ·have hl': (((a.l.length:Nat) :Int) != ((b.l.length:Nat) :Int)) =false:=by simp [hl]
  have HL:=ai hl;clear hl
  go_enter Tryd.func77,Tryd.ntmps77;go_wp2;clear hl';go_loopw [5] (fun i wr=>∃k:Nat,k≤a.l.length∧i = .int .i64 k∧(∀j (ha:j<a.l.length) (hb:j<b.l.length),j<k→a.l[j] =b.l[j])∧Below w.heap.size w wr) (fun i _=>a.l.length - (intOf i).toNat)
  case atStart=>exact⟨0,Nat.zero_le _,rfl,fun j _ _ h=>absurd h (by omega),Below.refl _ _⟩
  case round=>
   obtain⟨k,hk,rfl,hno,hbw⟩:=hrel;have HN:=ai hno;have HB:=ai hbw;have ha':=ha.mono hbw;have hb':=hb.mono hbw;clear hno hbw;by_cases hlt:k<a.l.length
   ·have hltb:k<b.l.length:=by rw [←HL.o];exact hlt
    have hix:=IL.ix ha' hlt;have hjx:=IL.ix hb' hltb;have c0:=int_at ha'.1 hlt;have d0:=int_at hb'.1 hltb;by_cases hp:a.l[k] =b.l[k]
    ·have hp': (a.l[k] != b.l[k]) =false:=by simp [hp]
     have HP:=ai hp;clear hp;go_wp2
     go_quiet (fail)
     go_wp2;go_roundw
     case rel=>
      refine⟨k+1,by omega,by go_num,fun j hj hj2 h=> ?_,below_drewN HB.o _⟩
      by_cases e:j=k
      ·subst e;exact HP.o
      ·exact HN.o j hj hj2 (by omega)
     case measure=>simp [intOf];omega
    ·have hp': (a.l[k] != b.l[k]) =true:=by simpa using hp
     have HP:=ai hp;clear hp;go_wp2
     go_quiet (fail)
     go_wp2;go_ret
     exact⟨retb (eqb_no (ne_of_at hlt hltb HP.o)).symm,below_drewN HB.o _⟩
   ·go_wp2
    go_ret
    exact⟨retb (eqb_yes (eq_of_all HL.o (fun j h1 h2=>HN.o j h1 h2 (by omega)))).symm,HB.o⟩
 ·have hl': (((a.l.length:Nat) :Int) != ((b.l.length:Nat) :Int)) =true:=by simp;omega
  have HL:=ai hl;clear hl
  go_enter Tryd.func77,Tryd.ntmps77;go_wp2;go_ret
  exact⟨retb (eqb_no (fun e=>HL.o (by rw [e]))).symm,Below.refl _ _⟩
theorem lsame_any (a b:IL) (w:World) (ha:a.In w) (hb:b.In w) :
  Calls Tryd.prog 16 #[.slice a.h.ao a.l.length a.h.cap,.slice b.h.ao b.l.length b.h.cap] w fun e w'=>e = .returned (.bool (decide (a.l=b.l)))∧Below w.heap.size w w':=by
 have hna:=ha.1.len;have hnb:=hb.1.len;by_cases hl:a.l.length=b.l.length
 ·have hl': (((a.l.length:Nat) :Int) != ((b.l.length:Nat) :Int)) =false:=by simp [hl]
  have HL:=ai hl;clear hl
  go_enter Tryd.func16,Tryd.ntmps16;go_wp2;clear hl';go_loopw [5] (fun i wr=>∃k:Nat,k≤a.l.length∧i = .int .i64 k∧(∀j (ha:j<a.l.length) (hb:j<b.l.length),j<k→a.l[j] =b.l[j])∧Below w.heap.size w wr) (fun i _=>a.l.length - (intOf i).toNat)
  case atStart=>exact⟨0,Nat.zero_le _,rfl,fun j _ _ h=>absurd h (by omega),Below.refl _ _⟩
  case round=>
   obtain⟨k,hk,rfl,hno,hbw⟩:=hrel;have HN:=ai hno;have HB:=ai hbw;have ha':=ha.mono hbw;have hb':=hb.mono hbw;clear hno hbw;by_cases hlt:k<a.l.length
   ·have hltb:k<b.l.length:=by rw [←HL.o];exact hlt
    have hix:=IL.ix ha' hlt;have hjx:=IL.ix hb' hltb;have c0:=int_at ha'.1 hlt;have d0:=int_at hb'.1 hltb;by_cases hp:a.l[k] =b.l[k]
    ·have hp': (a.l[k] != b.l[k]) =false:=by simp [hp]
     have HP:=ai hp;clear hp;go_wp2
     go_quiet (fail)
     go_wp2;go_roundw
     case rel=>
      refine⟨k+1,by omega,by go_num,fun j hj hj2 h=> ?_,below_drewN HB.o _⟩
      by_cases e:j=k
      ·subst e;exact HP.o
      ·exact HN.o j hj hj2 (by omega)
     case measure=>simp [intOf];omega
    ·have hp': (a.l[k] != b.l[k]) =true:=by simpa using hp
     have HP:=ai hp;clear hp;go_wp2
     go_quiet (fail)
     go_wp2;go_ret
     exact⟨retb (decide_eq_false (ne_of_at hlt hltb HP.o)).symm,below_drewN HB.o _⟩
   ·go_wp2
    go_ret
    exact⟨retb (decide_eq_true (eq_of_all HL.o (fun j h1 h2=>HN.o j h1 h2 (by omega)))).symm,HB.o⟩
 ·have hl': (((a.l.length:Nat) :Int) != ((b.l.length:Nat) :Int)) =true:=by simp;omega
  have HL:=ai hl;clear hl
  go_enter Tryd.func16,Tryd.ntmps16;go_wp2;go_ret
  exact⟨retb (decide_eq_false (fun e=>HL.o (by rw [e]))).symm,Below.refl _ _⟩
end Go.Proofs.YtogalchclmmfgaaDoor

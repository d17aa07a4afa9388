/- schema.Target, ref03.Target. -/
import Derived.Test.YtiijaaohphokcaaGreatDoorG01
import Derived.Test.YtiijaaohphokcaaGreatDoorG12
import Derived.Deep.RegionHeld3
import Derived.OwnWalk
set_option maxRecDepth 100000
set_option maxHeartbeats 16000000
namespace Go.Proofs.YtiijaaohphokcaaGreatDoor
open Go.RowKit
def tgtN (s:Sch) (i k:Int) :Option ByteArray:=if 0≤i∧0≤k then (s.tabs[i.toNat]?).bind fun t=>(t.fors[k.toNat]?).map (·.tab) else none
def tgtI (s:Sch) (i k:Int) :Int:=match tgtN s i k with|some t=>fi (named t) s.tabs|none=>0
def tgtB (s:Sch) (i k:Int) :Bool:=match tgtN s i k with|some t=>fok (named t) s.tabs|none=>false
theorem tgtN_hit (s:Sch) (i k:Nat) (hi:i<s.tabs.length) (hk:k<s.tabs[i].fors.length) :tgtN s i k=some (s.tabs[i].fors[k].tab):=by
 unfold tgtN;rw [if_pos (by omega)];simp [hi,hk]
theorem tgtN_miss (s:Sch) (i k:Int) (h:i<0∨(s.tabs.length:Int)≤i∨k<0) :tgtN s i k=none:=by
 unfold tgtN
 split
 ·rw [List.getElem?_eq_none (by omega)];rfl
 ·rfl
theorem tgtN_miss2 (s:Sch) (i:Nat) (k:Int) (hi:i<s.tabs.length) (hk: (s.tabs[i].fors.length:Int)≤k) :tgtN s i k=none:=by
 unfold tgtN
 split
 ·simp [hi];omega
 ·rfl
theorem tgt_none {s:Sch} {i k:Int} (h:tgtN s i k=none) : (0:Int) =tgtI s i k∧false=tgtB s i k:=by unfold tgtI tgtB;rw [h];exact⟨rfl,rfl⟩
theorem tgt_some {s:Sch} {i k:Int} {t:ByteArray} (h:tgtN s i k=some t) :fi (named t) s.tabs=tgtI s i k∧fok (named t) s.tabs=tgtB s i k:=by unfold tgtI tgtB;rw [h];exact⟨rfl,rfl⟩
theorem sz61: (Tryz.prog.info? 157).map (·.size) =some 2:=by kernel_rfl
theorem rtarget_any (s:Sch) (i k:Int) (w:World) (hin:s.In w) :
  Calls Tryz.prog 116 #[.agg #[.slice s.th.ao s.tabs.length s.th.cap],.int .i64 i,.int .i64 k] w fun e w'=>e = .returned (.tuple #[.int .i64 (tgtI s i k),.bool (tgtB s i k)])∧Below w.heap.size w w':=by
 have hn:=hin.rt.len;by_cases h1:i<0
 ·go_enter Tryz.func116,Tryz.ntmps116
  go_wp2
  go_ret2
  exact⟨ret2 (tgt_none (tgtN_miss s i k (.inl h1))),belA _⟩
 by_cases h2: (s.tabs.length:Int)≤i
 ·go_enter Tryz.func116,Tryz.ntmps116
  go_wp2
  go_ret2
  exact⟨ret2 (tgt_none (tgtN_miss s i k (.inr (.inl h2)))),belA _⟩
 by_cases h3:k<0
 ·go_enter Tryz.func116,Tryz.ntmps116
  go_wp2
  go_ret2
  exact⟨ret2 (tgt_none (tgtN_miss s i k (.inr (.inr h3)))),belA _⟩
 obtain⟨a,rfl⟩:=Int.eq_ofNat_of_zero_le (show 0≤i by omega)
 have ha:a<s.tabs.length:=by omega
 have hix:=hin.rt.ix ha Tryz.underlying25 sz22;have hb:=hin.rt.blk ha;obtain⟨c0,c1,c2,c3,c4,c5⟩:=tab_at hin.rt ha;have hfr:=(hin.ts _ (List.getElem_mem ha)).rf;have hfl:=hfr.len;by_cases h4: (s.tabs[a].fors.length:Int)≤k
 ·go_enter Tryz.func116,Tryz.ntmps116
  go_wp2
  go_ret2
  exact⟨ret2 (tgt_none (tgtN_miss2 s a k ha h4)),belA _⟩
 ·obtain⟨b,rfl⟩:=Int.eq_ofNat_of_zero_le (show 0≤k by omega)
  have hb':b<s.tabs[a].fors.length:=by omega
  have hjx:=hfr.ix hb' Tryz.underlying75 sz61;have hbb:=hfr.blk hb';obtain⟨d0,d1⟩:=frn_at hfr hb';have hin1:=hin.mono (belD (.cells #[.slice s.th.ao s.tabs.length s.th.cap] 27));have HT:=ai (tgt_some (tgtN_hit s a b ha hb'))
  go_enter Tryz.func116,Tryz.ntmps116;go_wp2
  go_region_held3 (fun w'=>w'.cell? ⟨w.heap.size,0,none⟩ =some (.slice s.th.ao s.tabs.length s.th.cap)∧w'.cell? ⟨s.th.b,s.th.o+a*6+4,none⟩ =some (.slice s.tabs[a].fh.ao s.tabs[a].fors.length s.tabs[a].fh.cap)∧w'.cell? ⟨s.tabs[a].fh.b,s.tabs[a].fh.o+b*2+1,none⟩ =some (.string s.tabs[a].fors[b].tab)) ((simp [*,go_sem])) (first| (go_at_call 114;refine(rfind_any s s.tabs[a].fors[b].tab _ hin1).mono ?_;rintro e w1 ⟨rfl,hb1⟩;have HB:=ai hb1;obtain⟨hb1a,_⟩:=bcell hb1;clear hb1))
  all_goals go_wp2
  go_ret2
  exact⟨ret2 HT.o,bel1 (bel_drew HB.o)⟩
end Go.Proofs.YtiijaaohphokcaaGreatDoor
/- The targets of a schema's tables, as the plain law of the order has them. -/
namespace Go.Proofs.YtiijaaohphokcaaGreatDoor
open Go.RowKit
def tnum (s:Sch) (b:ByteArray) :Nat:=(s.tabs.findIdx? (named b)).getD 0
def tgts (s:Sch) :List (List Nat):=s.tabs.map fun t=>t.fors.map fun f=>tnum s f.tab
def found (s:Sch) (i:Nat) :Prop:=∀(h:i<s.tabs.length) k (hk:k<s.tabs[i].fors.length),fok (named (s.tabs[i].fors[k].tab)) s.tabs=true
def allFound (s:Sch) :Prop:=∀i,found s i
theorem tgts_len (s:Sch) : (tgts s).length=s.tabs.length:=by simp [tgts]
theorem tgts_at (s:Sch) {i:Nat} (hi:i<s.tabs.length) : (tgts s)[i]'(by rw [tgts_len];exact hi) =s.tabs[i].fors.map fun f=>tnum s f.tab:=by simp [tgts]
theorem fi_tnum (s:Sch) (b:ByteArray) :fi (named b) s.tabs= ((tnum s b:Nat) :Int):=rfl
theorem tnum_lt {s:Sch} {b:ByteArray} (h:fok (named b) s.tabs=true) :tnum s b<s.tabs.length:=by
 unfold fok at h
 unfold tnum
 obtain⟨k,hk⟩:=Option.isSome_iff_exists.1 h;rw [hk];exact(List.findIdx?_eq_some_iff_getElem.1 hk).1
theorem tgtI_at (s:Sch) {i k:Nat} (hi:i<s.tabs.length) (hk:k<s.tabs[i].fors.length) :tgtI s i k= ((tnum s s.tabs[i].fors[k].tab:Nat) :Int):=by
 unfold tgtI;rw [tgtN_hit s i k hi hk];rfl
theorem tgtB_at (s:Sch) {i k:Nat} (hi:i<s.tabs.length) (hk:k<s.tabs[i].fors.length) :tgtB s i k=fok (named s.tabs[i].fors[k].tab) s.tabs:=by
 unfold tgtB;rw [tgtN_hit s i k hi hk]
theorem rdy_iff (s:Sch) (D:List Nat) {i:Nat} (hi:i<s.tabs.length) :rdy (tgts s) D i↔i ∉ D∧∀k (hk:k<s.tabs[i].fors.length),tnum s s.tabs[i].fors[k].tab∈D:=by
 unfold rdy
 refine and_congr Iff.rfl ?_
 constructor
 ·intro h k hk
  refine h (by rw [tgts_len];exact hi) _ ?_
  rw [tgts_at s hi];exact List.mem_map.2 ⟨_,List.getElem_mem hk,rfl⟩
 ·intro h h2 t ht
  rw [tgts_at s hi]at ht;obtain⟨f,hf,rfl⟩:=List.mem_map.1 ht;obtain⟨k,hk,rfl⟩:=List.getElem_of_mem hf;exact h k hk
theorem took_lt {T:List (List Nat)} {D:List Nat} (h:Took T D) : ∀i∈D,i<T.length:=by
 induction h with
 | nil=>intro i hi;cases hi
 | snoc hD hi ih=>
  intro j hj;rcases List.mem_append.1 hj with h|h
  ·exact ih j h
  ·rw [List.mem_singleton.1 h];exact hi.1
def bits (D:List Nat) (n:Nat) :List Value:=(List.range n).map fun i=>.bool (decide (i∈D))
theorem bits_at (D:List Nat) {n i:Nat} (h:i<n) : (bits D n)[i]? = some (.bool (decide (i∈D))):=by simp [bits,h]
theorem bits_set (D:List Nat) {n i:Nat} (_h:i<n) : (bits D n).set i (.bool true) =bits (D ++ [i]) n:=by
 apply List.ext_getElem
 ·simp [bits]
 ·intro j h1 h2
  rw [List.getElem_set];by_cases e:i=j
  ·subst e;simp [bits]
  ·rw [if_neg e]
   have e': ¬j=i:=fun h=>e h.symm
   simp [bits,e']
end Go.Proofs.YtiijaaohphokcaaGreatDoor
/- ref03.Order: what it answers, by the rounds of the plain law. -/
namespace Go.Proofs.YtiijaaohphokcaaGreatDoor
open Go.RowKit
theorem info_boolO: (Tryz.prog.info? 4).map (fun i=>(i.zero,i.size,i.bytes)) =some (some (.bool false),1,1):=by kernel_rfl
structure RO (w:World) (n g:Nat) (bx:Obj) (wr:World) (v:Value) (D:List Nat) :Prop where
 o:wr.ownsRow (w.heap.size+1) 3 1 v D.length ((D.map Int.ofNat).flatMap icells)
 don:wr.ownsRow (w.heap.size+1) 4 1 (.slice (some ⟨g,0,none⟩) n n) n (bits D n)
 ne:v.ownBlock≠some g
 bw:Below (w.heap.size+1) (w.alloc bx) wr
theorem made_bits (n:Nat) : (madeCells (Value.bool false).cells (n*1)).toList=bits [] n:=by
 simp [madeCells,bits,Value.cells];intro a _;rw [Nat.mod_one]
 rfl
theorem grown_of_below {w w':World} (h:Below w.heap.size w w') :w.grownBy w' none:=⟨h.os,h.tape,h.output,h.size,fun k hk _=>h.block k hk⟩
theorem oown_ne {w:World} {b1 b2 n k c:Nat} {g:Nat} {v:Value} {xs ys:List Value} {e e':TypeId} (hne:e≠e') (h1:w.ownsRow b1 e 1 v n xs) (h2:w.ownsRow b2 e' 1 (.slice (some ⟨g,0,none⟩) k c) k ys) :v.ownBlock≠some g:=by
 obtain⟨-,⟨rfl,-⟩ | ⟨g',cap,cur,rfl,-,hh,-⟩⟩:=h1
 ·simp [Value.ownBlock]
 ·obtain⟨-,⟨h,-⟩ | ⟨g2,cap2,cur2,h,-,hh2,-⟩⟩:=h2
  ·cases h
  ·cases h
   intro e1;simp [Value.ownBlock]at e1;subst e1;rw [hh]at hh2
   cases hh2;exact hne rfl
theorem ro_step {w wq wr w1:World} {n g m:Nat} {bx:Obj} {v v':Value} {D:List Nat} (h:RO w n g bx wq v D) (hb:Below wq.heap.size wq wr) (hm:m<n)
  (hown:w1.ownsRow (w.heap.size+1) 3 1 v' (D.length+1) ((D.map Int.ofNat).flatMap icells ++ [.int .i64 m]))
  (hg: ((wr.setCell ⟨g,m,none⟩ (.bool true)).alloc (.cells #[.int .i64 m] 3)).grownBy w1 v.ownBlock) :RO w n g bx w1 v' (D ++ [m]):=by
 have ho1:=h.o.kept (grown_of_below hb) (by cases v.ownBlock<;>simp)
 have hd1:=h.don.kept (grown_of_below hb) (.inr (by simp [Value.ownBlock]))
 obtain⟨hd2,hg2⟩:=hd1.stored m (.bool true);rw [bits_set D hm]at hd2;have hd3:=(hd2.alloc (.cells #[.int .i64 m] 3)).kept hg (.inr (fun e=>h.ne e.symm))
 have hlt:=h.don.lt g rfl;have hlt1:=ho1.lt;refine⟨?_,hd3,oown_ne (by decide) hown hd3,?_⟩
 ·rw [List.length_append,List.map_append,List.flatMap_append]
  exact hown
 ·refine(((h.bw.trans (hb.mono (by have:=h.bw.size;simpa using this))).setCell (p:=⟨g,m,none⟩) hlt.1 _).alloc ?_ _).grown hg ?_ (fun k hk=>(hlt1 k hk).1)
  ·have:=hg2.size;have:=hb.size;simp at *;omega
  ·have:=hg2.size;have:=hb.size;simp at *;omega
def slen:Value→Nat | .slice _ n _=>n|_=>0
theorem new_set {w:World} {a:Addr} {x y:Value} {t:TypeId} : ∀j u,[x][j]? = some u→((w.setCell a y).alloc (.cells #[x] t)).cell? ((⟨w.heap.size,0,none⟩ :Addr).add j) =some u:=by
 intro j u h;have:=new_cells (w:=w.setCell a y) (l:= [x]) (t:=t) j u h
 simpa using this
theorem own_len {w:World} {b n size:Nat} {e:TypeId} {v:Value} {xs:List Value} (h:w.ownsRow b e size v n xs) :slen v=n:=by
 obtain⟨-,⟨rfl,h⟩ | ⟨g',cap,cur,rfl,-⟩⟩:=h
 ·exact h.symm
 ·rfl
def Rd (s:Sch) (D:List Nat) (k q:Nat) (c:Bool) :Prop:=c=true↔(k ∉ D∧∀(hk:k<s.tabs.length) j (hj:j<s.tabs[k].fors.length),j<q→tnum s s.tabs[k].fors[j].tab∈D)
theorem rdy_zero (s:Sch) (D:List Nat) (k:Nat) :Rd s D k 0 (!decide (k∈D)):=by simp [Rd]
theorem rdy_succ (s:Sch) (D:List Nat) {k q:Nat} (hk:k<s.tabs.length) (hq:q<s.tabs[k].fors.length) {c d:Bool} (h:Rd s D k q c)
  (hd:d= (c && decide (tnum s s.tabs[k].fors[q].tab∈D))) :Rd s D k (q+1) d:=by
 subst hd
 unfold Rd at *
 rw [Bool.and_eq_true,h,decide_eq_true_iff]
 constructor
 ·rintro ⟨⟨h1,h2⟩,h3⟩
  refine⟨h1,fun hk j hj hlt=> ?_⟩
  by_cases e:j=q
  ·subst e;exact h3
  ·exact h2 hk j hj (by omega)
 ·rintro ⟨h1,h2⟩
  exact⟨⟨h1,fun hk j hj hlt=>h2 hk j hj (by omega)⟩,h2 hk q hq (by omega)⟩
theorem rdy_end (s:Sch) (D:List Nat) {k q:Nat} (hk:k<s.tabs.length) (hq: ¬q<s.tabs[k].fors.length) {c:Bool} (h:Rd s D k q c) :c=true↔rdy (tgts s) D k:=by
 unfold Rd at h
 rw [h,rdy_iff s D hk];exact and_congr Iff.rfl ⟨fun h j hj=>h hk j hj (by omega),fun h _ j hj _=>h j hj⟩
theorem no_succ {T:List (List Nat)} {D:List Nat} {k:Nat} (h: ∀j,j<k→¬rdy T D j) (hk: ¬rdy T D k) : ∀j,j<k+1→¬rdy T D j:=by
 intro j hj;by_cases e:j=k
 ·subst e;exact hk
 ·exact h j (by omega)
theorem rorder_any (s:Sch) (w:World) (hin:s.In w) (hfew:s.tabs.length≤10) :
  Calls Tryz.prog 117 #[.agg #[.slice s.th.ao s.tabs.length s.th.cap]] w fun e w'=>((e = .returned (.tuple #[.slice none 0 0,.int .i64 11])∧¬allFound s)∨(allFound s∧∃D,(Ends (tgts s) D false∧e = .returned (.tuple #[.slice none 0 0,.int .i64 7]))∨
    (Ends (tgts s) D true∧∃r:IL,r.l=D.map Int.ofNat∧r.In w'∧e = .returned (.tuple #[.slice r.h.ao r.l.length r.h.cap,.int .i64 0]))))∧Below w.heap.size w w':=by
 have hn:=hin.rt.len;have HIN:=ai hin;clear hin
 go_enter Tryz.func117,Tryz.ntmps117;go_wp2;go_loopw [4] (fun i wr=>∃k:Nat,k≤s.tabs.length∧i = .int .i64 k∧(∀j,j<k→found s j)∧Below (w.heap.size+1) (w.alloc (.cells #[.slice s.th.ao s.tabs.length s.th.cap] 27)) wr) (fun i _=>s.tabs.length - (intOf i).toNat)
 case atStart=>exact⟨0,Nat.zero_le _,rfl,fun j h=>absurd h (by omega),Below.refl _ _⟩
 case round=>
  obtain⟨k,hk,rfl,hno,hbw0⟩:=hrel;have HN:=ai hno;have HBW:=ai hbw0;have hx:=box_cell (w:=w) (c:=#[.slice s.th.ao s.tabs.length s.th.cap]) (T:=27) (j:=0) (hbw0.mono (by simp)) rfl
  have hn1: (k:Int)≤s.tabs.length:=by omega
  clear hno hbw0;by_cases hlt:k<s.tabs.length
  ·go_wp2
   go_loopw [5] (fun i wr=>∃m:Nat,m≤s.tabs[k].fors.length∧i = .int .i64 m∧(∀j (hj:j<s.tabs[k].fors.length),j<m→fok (named s.tabs[k].fors[j].tab) s.tabs=true)∧Below (w.heap.size+1) (w.alloc (.cells #[.slice s.th.ao s.tabs.length s.th.cap] 27)) wr) (fun i _=>s.tabs[k].fors.length - (intOf i).toNat)
   case atStart=>exact⟨0,Nat.zero_le _,rfl,fun j _ h=>absurd h (by omega),HBW.o⟩
   case round=>
    obtain⟨m,hm,rfl,hno2,hbw2⟩:=hrel;have HN2:=ai hno2;have HBW2:=ai hbw2;have hy:=box_cell (w:=w) (c:=#[.slice s.th.ao s.tabs.length s.th.cap]) (T:=27) (j:=0) (hbw2.mono (by simp)) rfl
    have hbA:Below w.heap.size w wr:=(belA _).trans (hbw2.mono (by omega))
    have hin':=HIN.o.mono hbA;have HIN':=ai hin';have hix:=hin'.rt.ix hlt Tryz.underlying25 sz22;have hbk:=hin'.rt.blk hlt;obtain⟨c0,c1,c2,c3,c4,c5⟩:=tab_at hin'.rt hlt;have hfl:=(hin'.ts _ (List.getElem_mem hlt)).rf.len;clear hno2 hbw2 hbA hin';by_cases hmt:m<s.tabs[k].fors.length
    ·have hmi: (m:Int) <s.tabs[k].fors.length:=by omega
     cases hq:fok (named s.tabs[k].fors[m].tab) s.tabs
     ·have HQ:=ai hq
      clear hq;go_wp2_with (go_at_call 116;refine(rtarget_any s k m _ HIN'.o).mono ?_;rintro e v ⟨rfl,hb1⟩;rw [tgtB_at s hlt hmt,HQ.o];have HV:=ai hb1;clear hb1)
      go_ret2
      refine⟨.inl ⟨rfl,fun h=> ?_⟩,(belA _).trans ((HBW2.o.trans (HV.o.mono (by have:=HBW2.o.size;simp at this;omega))).mono (by omega))⟩
      have:=h k hlt m hmt;rw [HQ.o]at this
      cases this
     ·have HQ:=ai hq
      clear hq;go_wp2_with (go_at_call 116;refine(rtarget_any s k m _ HIN'.o).mono ?_;rintro e v ⟨rfl,hb1⟩;rw [tgtB_at s hlt hmt,HQ.o];have HV:=ai hb1;clear hb1)
      go_roundw
      case rel=>
       refine⟨m+1,by omega,by go_num,fun j hj h=> ?_,HBW2.o.trans (HV.o.mono (by have:=HBW2.o.size;simp at this;omega))⟩
       by_cases e:j=m
       ·subst e;exact HQ.o
       ·exact HN2.o j hj (by omega)
      case measure=>simp [intOf];omega
    ·go_wp2
     go_roundw
     case rel=>
      refine⟨k+1,by omega,by go_num,fun j h=> ?_,HBW2.o⟩
      by_cases e:j=k
      ·subst e;intro h1 m' hm';exact HN2.o m' hm' (by omega)
      ·exact HN.o j (by omega)
     case measure=>simp [intOf];omega
  ·obtain⟨bi,hbi,hbz,hbs,hbb⟩:=info_parts info_boolO
   have hws:=HBW.o.size;simp at hws;go_wp2_with (at_make;refine wpList_make_full _ rfl _ _ 102 rfl (w.heap.size+1) 4 bi (.bool false) 1 Tryz.underlying102 hbi hbz hbs _ _ _ _ s.tabs.length rfl rfl rfl rfl (by rw [hbb];omega) (by unfold maxLen;omega) (by omega) ?_;intro w2 hown hgrow;have HO:=ai hown;have HG:=ai hgrow;clear hown hgrow)
   have HR:=ai (show RO w s.tabs.length wr.heap.size (.cells #[.slice s.th.ao s.tabs.length s.th.cap] 27) w2 (.slice none 0 0) []from⟨World.ownsRow_nil _ _ _ _,made_bits _▸HO.o,by simp [Value.ownBlock],HBW.o.grown HG.o (by omega) (fun b hb=>by cases hb)⟩)
   have HAF:=ai (show allFound s from fun i h=>HN.o i (by omega) h)
   have HRT:=ai (show w.heap.size+1≤wr.heap.size by omega)
   clear HN HBW hx hws HO HG hbi hbz hbs hbb;generalize hg:wr.heap.size=g at *;obtain⟨i0,hi,hz0,hz1,hz2⟩:=info_parts info3;have HI:=ai (And.intro hi (And.intro hz0 (And.intro hz1 hz2)));clear hi hz0 hz1 hz2;go_loopw [9] (fun v wq=>∃D:List Nat,Took (tgts s) D∧D.length≤s.tabs.length∧RO w s.tabs.length g (.cells #[.slice s.th.ao s.tabs.length s.th.cap] 27) wq v D) (fun v _=>s.tabs.length - slen v)
   case atStart=>exact⟨[],.nil,Nat.zero_le _,HR.o⟩
   case round=>
    obtain⟨D,hD,hDl,hro⟩:=hrel;have HT:=ai hD;have HQ:=ai hro;clear hD hro;have hx2:=box_cell (w:=w) (c:=#[.slice s.th.ao s.tabs.length s.th.cap]) (T:=27) (j:=0) (HQ.o.bw.mono (by simp)) rfl
    obtain⟨hd,hv,-⟩:=own_row (size:=1) (cells:=icells) (fun _=>rfl) (by decide) (by simpa using HQ.o.o)
    rw [List.length_map]at hv;subst hv;have HC:=ai (show∀(j:Nat) (_:j<s.tabs.length) (wx:World),Below wr.heap.size wr wx→wx.cell? ⟨g,j,none⟩ =some (.bool (decide (j∈D)))from fun j hj wx hb=>by
     rw [hb.cell (p:=⟨g,j,none⟩) (HQ.o.don.lt g rfl).2,HQ.o.don.cellAt j (by omega),bits_at D hj])
    have HF:=ai (show∀(j:Nat) (wx:World),Below wr.heap.size wr wx→wx.frozen? ⟨g,j,none⟩ =false from fun j wx hb=>by
     rw [hb.frozen (p:=⟨g,j,none⟩) (HQ.o.don.lt g rfl).2,HQ.o.don.frozenAt j])
    have HX:=ai (show∀(wx:World),Below wr.heap.size wr wx→wx.cell? ⟨w.heap.size,0,none⟩ =some (.slice s.th.ao s.tabs.length s.th.cap)from fun wx hb=>by
     rw [hb.cell (p:=⟨w.heap.size,0,none⟩) (show w.heap.size<wr.heap.size by have:=HQ.o.bw.size;simp at this;omega)];exact hx2)
    have hbA:Below w.heap.size w wr:=(belA _).trans (HQ.o.bw.mono (by omega))
    have HBA:=ai hbA;have HIN2:=ai (HIN.o.mono hbA);clear hbA;obtain⟨w0,hw0⟩ : ∃x,x=wr:=⟨_,rfl⟩;subst hw0;have HS0:=ai (show w.heap.size+1≤w0.heap.size by have:=HQ.o.bw.size;simpa using this)
    clear hx2;by_cases hlt:D.length<s.tabs.length
    ·have hn2: (D.length:Int) <s.tabs.length:=by omega
     have hx2:=HX.o _ (Below.refl _ _);go_wp2;go_loopw [10,11] (fun a i wx=>∃k:Nat,k≤s.tabs.length∧i = .int .i64 k∧((a = .int .i64 (-1)∧∀j,j<k→¬rdy (tgts s) D j)∨(∃m:Nat,a = .int .i64 m∧isNext (tgts s) D m))∧Below w0.heap.size w0 wx) (fun a i _=>2* (s.tabs.length - (intOf i).toNat))
     case atStart=>exact⟨0,Nat.zero_le _,rfl,.inl ⟨rfl,fun j h=>absurd h (by omega)⟩,Below.refl _ _⟩
     case round=>
      obtain⟨k,hk,rfl,hcase,hbw2⟩:=hrel;have HB2:=ai hbw2;have hx3:=HX.o _ hbw2;clear hx2;rcases hcase with⟨rfl,hno⟩ | ⟨m,rfl,hnx⟩
      ·have HNO:=ai hno
       clear hno hbw2;have hki: (k:Int)≤s.tabs.length:=by omega
       by_cases hlk:k<s.tabs.length
       ·have hlki: (k:Int) <s.tabs.length:=by omega
        have hcell:=HC.o k hlk _ HB2.o;go_wp2;go_loopw [12,13] (fun b i wx=>∃(c:Bool) (q:Nat),q≤s.tabs[k].fors.length∧b = .bool c∧i = .int .i64 q∧Rd s D k q c∧Below w0.heap.size w0 wx) (fun _ i _=>s.tabs[k].fors.length - (intOf i).toNat)
        case atStart=>exact⟨!decide (k∈D),0,Nat.zero_le _,by simp,rfl,rdy_zero _ _ _,HB2.o⟩
        case round=>
         obtain⟨c,q,hq,rfl,rfl,hc,hbw4⟩:=hrel;have HB4:=ai hbw4;have HCC:=ai hc;have hx4:=HX.o _ hbw4;have HIN4:=ai (HIN2.o.mono hbw4);have hix:=HIN4.o.rt.ix hlk Tryz.underlying25 sz22;have hbk:=HIN4.o.rt.blk hlk;obtain⟨c0,c1,c2,c3,c4,c5⟩:=tab_at HIN4.o.rt hlk;have hfl:=(HIN4.o.ts _ (List.getElem_mem hlk)).rf.len;clear hbw4 hc hx3 hcell;by_cases hqt:q<s.tabs[k].fors.length
         ·have hqi: (q:Int) <s.tabs[k].fors.length:=by omega
          have hf:fok (named s.tabs[k].fors[q].tab) s.tabs=true:=HAF.o k hlk q hqt;have htl:=tnum_lt hf;have HTL:=ai htl;have HT4:=ai (show∀wx,Below w0.heap.size w0 wx→wx.cell? ⟨g,tnum s s.tabs[k].fors[q].tab,none⟩ =some (.bool (decide (tnum s s.tabs[k].fors[q].tab∈D)))from fun wx hb=>HC.o _ htl wx hb)
          clear hf htl;have hti: ((tnum s s.tabs[k].fors[q].tab:Nat) :Int) <s.tabs.length:=by have:=HTL.o;omega
          cases c
          ·go_wp2_with (go_at_call 116;refine(rtarget_any s k q _ HIN4.o).mono ?_;rintro e v ⟨rfl,hb1⟩;rw [tgtI_at s hlk hqt];have HB5:=ai (bT HB4.o hb1);clear hb1)
           go_roundw
           case rel=>exact⟨false,q+1,by omega,rfl,by go_num,rdy_succ s D hlk hqt HCC.o (by simp),HB5.o⟩
           case measure=>simp [intOf];omega
          ·go_wp2_with (go_at_call 116;refine(rtarget_any s k q _ HIN4.o).mono ?_;rintro e v ⟨rfl,hb1⟩;rw [tgtI_at s hlk hqt];have HB5:=ai (bT HB4.o hb1);clear hb1;have hc5:=HT4.o _ HB5.o)
           go_roundw
           case rel=>exact⟨decide (tnum s s.tabs[k].fors[q].tab∈D),q+1,by omega,rfl,by go_num,rdy_succ s D hlk hqt HCC.o (by simp),HB5.o⟩
           case measure=>simp [intOf];omega
         ·have hqi: ¬(q:Int) <s.tabs[k].fors.length:=by omega
          cases c
          ·go_wp2
           go_roundw
           case rel=>exact⟨k+1,by omega,by go_num,.inl ⟨rfl,no_succ HNO.o (fun h=>by have:=(rdy_end s D hlk hqt HCC.o).2 h;cases this)⟩,HB4.o⟩
           case measure=>simp [intOf];omega
          ·go_wp2
           go_roundw
           case rel=>exact⟨k+1,by omega,by go_num,.inr ⟨k,rfl,by rw [tgts_len];exact hlk,(rdy_end s D hlk hqt HCC.o).1 rfl,HNO.o⟩,HB4.o⟩
           case measure=>simp [intOf];omega
       ·have hlki: ¬(k:Int) <s.tabs.length:=by omega
        go_wp2
        go_ret2
        refine⟨.inr ⟨HAF.o,D,.inl ⟨⟨HT.o,?_,fun j hj=>HNO.o j (by rw [tgts_len]at hj;omega)⟩,rfl⟩⟩,HBA.o.trans (HB2.o.mono HBA.o.size)⟩
        rw [tgts_len];exact hlt
      ·have HNX:=ai hnx
       clear hnx hbw2;have hm1:=HNX.o.1;rw [tgts_len]at hm1;have hfz:=HF.o m _ HB2.o;have hcl:=HC.o m hm1 _ HB2.o;have HO2:=ai ((HQ.o.o.kept (grown_of_below HB2.o) (by cases (Value.slice hd.ao D.length hd.cap).ownBlock<;>simp)).kept ((HQ.o.don.kept (grown_of_below HB2.o) (.inr (by simp [Value.ownBlock]))).stored m (.bool true)).2 (.inr HQ.o.ne))
       have hbs:w.heap.size+1≤wr.heap.size:=Nat.le_trans HS0.o HB2.o.size;by_cases hlk:k<s.tabs.length
       ·have hlki: (k:Int) <s.tabs.length:=by omega
        go_wp2_with (at_builtin;refine wpList_append_own _ rfl _ _ 22 rfl (w.heap.size+1) 3 i0 (.int .i64 0) 1 8 Tryz.underlying22 HI.o.1 HI.o.2.1 HI.o.2.2.1 HI.o.2.2.2 rfl (by decide) _ _ _ rfl (HO2.o.alloc _) ⟨wr.heap.size,0,none⟩ 1 1 [.int .i64 m] rfl rfl new_set one_int (by unfold maxLen;omega) (by omega) (by simp;omega) ?_;intro v' w1 hown' hgrow _)
        have HR2:=ai (ro_step HQ.o HB2.o hm1 hown' hgrow);have HL2:=ai (own_len hown');clear hown' hgrow;go_wp2;go_roundw
        case rel=>exact⟨D ++ [m],.snoc HT.o HNX.o,by simp;omega,HR2.o⟩
        case measure=>
         have h1:slen (Value.slice hd.ao D.length hd.cap) =D.length:=rfl;simp [HL2.o,h1];omega
       ·have hlki: ¬(k:Int) <s.tabs.length:=by omega
        go_wp2_with (at_builtin;refine wpList_append_own _ rfl _ _ 22 rfl (w.heap.size+1) 3 i0 (.int .i64 0) 1 8 Tryz.underlying22 HI.o.1 HI.o.2.1 HI.o.2.2.1 HI.o.2.2.2 rfl (by decide) _ _ _ rfl (HO2.o.alloc _) ⟨wr.heap.size,0,none⟩ 1 1 [.int .i64 m] rfl rfl new_set one_int (by unfold maxLen;omega) (by omega) (by simp;omega) ?_;intro v' w1 hown' hgrow _)
        have HR2:=ai (ro_step HQ.o HB2.o hm1 hown' hgrow);have HL2:=ai (own_len hown');clear hown' hgrow;go_wp2;go_roundw
        case rel=>exact⟨D ++ [m],.snoc HT.o HNX.o,by simp;omega,HR2.o⟩
        case measure=>
         have h1:slen (Value.slice hd.ao D.length hd.cap) =D.length:=rfl;simp [HL2.o,h1];omega
    ·have hn2: ¬(D.length:Int) <s.tabs.length:=by omega
     have hx2:=HX.o _ (Below.refl _ _);go_wp2
     go_ret2
     obtain⟨r,hv,hr,hin2⟩:=il_mk (xs:=D.map Int.ofNat) (by simpa using HQ.o.o) (fun n hn=>by
      obtain⟨i,hi,rfl⟩:=List.mem_map.1 hn;have:=took_lt HT.o i hi;rw [tgts_len]at this;have h1: (Int.ofNat i) = (i:Int):=rfl;rw [h1];exact⟨by omega,by omega⟩)
     refine⟨.inr ⟨HAF.o,D,.inr ⟨⟨HT.o,?_⟩,r,hr,hin2,?_⟩⟩,HBA.o⟩
     ·rw [if_pos rfl,tgts_len];omega
     ·simp [←hv]
end Go.Proofs.YtiijaaohphokcaaGreatDoor

/- schema.keys of a table with one key column and nothing else. -/
import Derived.Test.YtiijaaohphokcaaGreatDoorG02
import Derived.Test.YtiijaaohphokcaaGreatDoorG10
import Derived.Deep.RegionHeld3
import Derived.Lib.IndexMore
set_option maxRecDepth 100000
set_option maxHeartbeats 16000000
namespace Go.Proofs.YtiijaaohphokcaaGreatDoor
open Go.RowKit
def pn (x:Tab) (k:Int) :Bool:=(x.cols.getD k.toNat ⟨⟨#[]⟩,0,false⟩).nul
theorem fx_any {α:Type} (p:α→Bool) (l:List α) :decide (0≤fx p l) =l.any p:=by
 unfold fx fi fok
 rw [List.findIdx?_isSome]
 cases h:l.any p with
 | true=>simp
 | false=>simp
theorem kclo_any (x:Tab) (c:Nat) (k:Int) (w:World) (hr:Row w 3 Col.cells x.ch x.cols) (hc:w.cell? ⟨c,1,none⟩ =some (.slice x.ch.ao x.cols.length x.ch.cap)) (h0:0≤k) (h1:k<x.cols.length) :
  Calls Tryz.prog 182 #[.int .i64 k,.pointer (some ⟨c,0,none⟩)] w
   fun e w'=>e = .returned (.bool (pn x k))∧Below w.heap.size w w':=by
 obtain⟨m,rfl⟩ : ∃m:Nat,k=m:=⟨k.toNat,by omega⟩
 have hm:m<x.cols.length:=by omega
 have hn:=hr.len;have HP:=ai (show pn x m=x.cols[m].nul by simp [pn,List.getD,hm])
 have hix:=hr.ix hm Tryz.underlying73 sz30;obtain⟨c0,c1,c2⟩:=col_at hr hm;have hbk:=hr.blk hm;clear hr
 go_enter Tryz.func182,Tryz.ntmps182;go_wp2;go_ret
 exact⟨retb HP.o.symm,Below.refl _ _⟩
theorem kindex_any (x:Tab) (l:IL) (c:Nat) (w:World) (hin:l.In w) (hr:Row w 3 Col.cells x.ch x.cols) (hc:w.cell? ⟨c,1,none⟩ =some (.slice x.ch.ao x.cols.length x.ch.cap)) (hk: ∀j (hj:j<l.l.length),0≤l.l[j]∧l.l[j] <x.cols.length) :
  Calls Tryz.prog 193 #[.slice l.h.ao l.l.length l.h.cap,.func (.func 182) #[] #[.pointer (some ⟨c,0,none⟩)]] w
   fun e w'=>e = .returned (.int .i64 (fx (pn x) l.l))∧Below w.heap.size w w':=by
 have hlc:c<w.heap.size:=World.block_lt_of_cell? w ⟨c,1,none⟩ hc;have hn:=hin.1.len;have HC:=ai hc;have HR:=ai hr;have HK:=ai hk;clear hc hr hk
 go_enter Tryz.func193,Tryz.ntmps193;go_wp2;go_loopw [5,8] (fun _ i wr=>∃k:Nat,k≤l.l.length∧i = .int .i64 k∧Hid (∀j (hj:j<l.l.length),j<k→pn x l.l[j] =false)∧Hid (Below w.heap.size w wr)) (fun _ i _=>l.l.length - (intOf i).toNat)
 case atStart=>exact⟨0,Nat.zero_le _,rfl,fun j _ h=>absurd h (by omega),Below.refl _ _⟩
 case round=>
  obtain⟨k,hk,rfl,HN,HB⟩:=hrel;have hin':=hin.mono HB.o;by_cases hlt:k<l.l.length
  ·have hix:=IL.ix hin' hlt
   have c0:=int_at hin'.1 hlt;have HCL:=ai (kclo_any x c l.l[k] wr (HR.o.mono HB.o) (by rw [HB.o.cell hlc];exact HC.o) (HK.o k hlt).1 (HK.o k hlt).2)
   cases hp:pn x l.l[k]
   all_goals
    have HP:=ai hp;clear hp;go_wp2_with (go_at_call 182;refine HCL.o.mono ?_;rintro e w1 ⟨rfl,hb1⟩;rw [HP.o];have HB1:=ai hb1;clear hb1)
   ·go_roundw
    case rel=>
     refine⟨k+1,by omega,by go_num,fun j hj h=> ?_,HB.o.trans (HB1.o.mono HB.o.size)⟩
     by_cases e:j=k
     ·subst e;exact HP.o
     ·exact HN.o j hj (by omega)
    case measure=>simp [intOf];omega
   ·go_ret
    exact⟨ret1 (fx_hit hlt HP.o (fun j hj h=>HN.o j hj h)).symm,HB.o.trans (HB1.o.mono HB.o.size)⟩
  ·go_wp2
   go_ret
   exact⟨ret1 (fx_miss (fun j hj=>HN.o j hj (by omega))).symm,HB.o⟩
theorem kcont_any (x:Tab) (l:IL) (c:Nat) (w:World) (hin:l.In w) (hr:Row w 3 Col.cells x.ch x.cols) (hc:w.cell? ⟨c,1,none⟩ =some (.slice x.ch.ao x.cols.length x.ch.cap)) (hk: ∀j (hj:j<l.l.length),0≤l.l[j]∧l.l[j] <x.cols.length) :
  Calls Tryz.prog 181 #[.slice l.h.ao l.l.length l.h.cap,.func (.func 182) #[] #[.pointer (some ⟨c,0,none⟩)]] w
   fun e w'=>e = .returned (.bool (l.l.any (pn x)))∧Below w.heap.size w w':=by
 have HA:=ai (fx_any (pn x) l.l);have HCL:=ai (kindex_any x l c w hin hr hc hk);clear hr hc hk
 go_enter Tryz.func181,Tryz.ntmps181;go_wp2_with (go_at_call 193;refine HCL.o.mono ?_;rintro e w1 ⟨rfl,hb1⟩)
 go_ret
 exact⟨by rw [←HA.o];rfl,hb1⟩
abbrev pt (nm:ByteArray) (ch:Hd) (cols:List Col) (ph:Hd) :Tab:=⟨nm,ch,cols,⟨ph,[0]⟩,nilHd,[],nilHd,[],nilHd,[]⟩
theorem keys_plain (nm:ByteArray) (ch:Hd) (cols:List Col) (ph:Hd) (w:World) (hx: (pt nm ch cols ph).In w) (hc:0<cols.length) (hnul: ∀c∈cols,c.nul=false) :
  Calls Tryz.prog 151 #[.agg #[.string nm,.slice ch.ao cols.length ch.cap,.slice ph.ao 1 ph.cap,.slice none 0 0,.slice none 0 0,.slice none 0 0]] w fun e w'=>e = .returned (.int .i64 0)∧Below w.heap.size w w':=by
 have HB0:=ai (belA (w:=w) (.cells #[.string nm,.slice ch.ao cols.length ch.cap,.slice ph.ao 1 ph.cap,.slice none 0 0,.slice none 0 0,.slice none 0 0] 78))
 have HX:=ai (hx.mono HB0.o);have HBX:=ai (Box.new w #[.string nm,.slice ch.ao cols.length ch.cap,.slice ph.ao 1 ph.cap,.slice none 0 0,.slice none 0 0,.slice none 0 0] 78);have HKE:=ai (show keyE cols.length [0] =0 from keyE_yes ⟨by decide,fun i hi=>by
  have h0:i=0:=by have: ([0] :List Int).length=1:=rfl;omega
  subst h0;refine⟨Int.le_refl _,?_,fun j hj h=>absurd h (by omega)⟩
  show(0:Int) <_;omega⟩)
 have HKO:=ai (show∀j (hj:j< ([0] :List Int).length),(0:Int)≤([0] :List Int)[j]∧([0] :List Int)[j] < (cols.length:Int)from fun j hj=>by
  have h0:j=0:=by have: ([0] :List Int).length=1:=rfl;omega
  subst h0;refine⟨Int.le_refl _,?_⟩
  show(0:Int) <_;omega)
 have HBN:=ai (show([0] :List Int).any (pn (pt nm ch cols ph)) =false from by
  show(pn (pt nm ch cols ph) 0 || false) =false
  rw [Bool.or_false]
  unfold pn
  show(cols.getD 0 _).nul=false
  rw [List.getD_eq_getElem?_getD,List.getElem?_eq_getElem hc];exact hnul _ (List.getElem_mem hc))
 clear hx hc hnul
 go_enter Tryz.func151,Tryz.ntmps151;go_wp2_with (first
  | (go_at_call 180;refine(key_any (pt nm ch cols ph) ⟨ph,[0]⟩ _ HX.o.rp).mono ?_;rintro e w1 ⟨rfl,hb1⟩;rw [HKE.o];have HB1:=ai hb1;have HX1:=ai (HBX.o.below hb1);clear hb1;have y1:=HX1.o.cell (j:=1) rfl;have y2:=HX1.o.cell (j:=2) rfl)
  | (go_at_call 181;refine(kcont_any (pt nm ch cols ph) ⟨ph,[0]⟩ w.heap.size _ (HX.o.mono HB1.o).rp (HX.o.mono HB1.o).rc y1 HKO.o).mono ?_;rintro e w2 ⟨rfl,hb2⟩;rw [HBN.o];have HB2:=ai (bT HB1.o hb2);have HX2:=ai (HX1.o.below hb2);clear hb2 y1 y2;have z3:=HX2.o.cell (j:=3) rfl;have z4:=HX2.o.cell (j:=4) rfl)
  | (go_at_call 183;refine(Tryz.slices_Clone_nil 0 0 _).mono ?_;rintro e w3 ⟨rfl,rfl⟩))
 go_loopw [4,27] (fun v i wr=>v = .slice none 0 0∧i = .int .i64 0∧wr=w3) (fun _ i _=>0)
 case atStart=>exact⟨rfl,rfl,rfl⟩
 case round=>
  obtain⟨rfl,rfl,rfl⟩:=hrel;go_wp2;go_loopw [39] (fun i wz=>i = .int .i64 0∧wz=wr) (fun i _=>0)
  case atStart=>exact⟨rfl,rfl⟩
  case round=>
   obtain⟨rfl,rfl⟩:=hrel;go_wp2;go_ret
   exact⟨rfl,bel1 HB2.o⟩
end Go.Proofs.YtiijaaohphokcaaGreatDoor
/- Names: what the two tests of a string say of each other. Plain lists. -/
namespace Go.Proofs.YtiijaaohphokcaaGreatDoor
def words:List (List UInt8):= [[115,101,108,101,99,116],
 [100,105,115,116,105,110,99,116],
 [97,108,108],
 [102,114,111,109],
 [119,104,101,114,101],
 [103,114,111,117,112],
 [98,121],
 [104,97,118,105,110,103],
 [97,115],
 [111,110],
 [117,110,105,111,110],
 [101,120,99,101,112,116],
 [105,110,116,101,114,115,101,99,116],
 [106,111,105,110],
 [105,110,110,101,114],
 [108,101,102,116],
 [114,105,103,104,116],
 [102,117,108,108],
 [99,114,111,115,115],
 [115,101,109,105],
 [97,110,116,105],
 [97,110,100],
 [111,114],
 [110,111,116],
 [105,115],
 [110,117,108,108],
 [116,114,117,101],
 [102,97,108,115,101],
 [105,110],
 [99,97,115,101],
 [119,104,101,110],
 [116,104,101,110],
 [101,108,115,101],
 [101,110,100],
 [118,97,108,117,101,115],
 [116,97,98,108,101],
 [112,114,105,109,97,114,121],
 [117,110,105,113,117,101],
 [102,111,114,101,105,103,110],
 [114,101,102,101,114,101,110,99,101,115],
 [99,104,101,99,107],
 [105,110,116],
 [98,111,111,108],
 [116,101,120,116],
 [99,111,117,110,116],
 [115,117,109],
 [109,105,110],
 [109,97,120],
 [99,111,97,108,101,115,99,101],
 [108,101,110,103,116,104],
 [115,97,109,101],
 [109,111,100]]
def glue:List (List UInt8)→List UInt8
 | []=> [32]
 | w :: r=>32 :: w ++ glue r
theorem words_ok: ∀w∈words,32 ∉ w:=by decide +kernel
theorem glue_head (W:List (List UInt8)) : ∃t,glue W=32 :: t:=by
 cases W with
 | nil=>exact⟨[],rfl⟩
 | cons w r=>exact⟨_,rfl⟩
def OccS (s sub:List UInt8) :Prop:=∃a b,s=a ++ (sub ++ b)
theorem occs_cons {c:UInt8} {s sub:List UInt8} : OccS (c :: s) sub↔(∃b,c :: s=sub ++ b)∨OccS s sub:=by
 constructor
 ·rintro ⟨a,b,h⟩
  cases a with
  | nil=>exact .inl ⟨b,by simpa using h⟩
  | cons x a=>exact .inr ⟨a,b,by simpa using (List.cons.inj h).2⟩
 ·rintro (⟨b,h⟩ | ⟨a,b,h⟩)
  ·exact⟨[],b,by simpa using h⟩
  ·exact⟨c :: a,b,by simp [h]⟩
theorem occs_skip {t sub:List UInt8} : ∀(w:List UInt8),32 ∉ w→OccS (w ++ t) (32 :: sub)→OccS t (32 :: sub)
 | [],_,h=>h
 | c :: w,hw,h=>by
  rcases occs_cons.1 h with⟨b,hb⟩ |h
  ·have:=(List.cons.inj hb).1
   exact absurd (by simp [this]) hw
  ·exact occs_skip w (fun h'=>hw (List.mem_cons_of_mem _ h')) h
theorem pre_eq: ∀(l w:List UInt8) (t b:List UInt8),32 ∉ l→32 ∉ w→w ++ 32 :: t=l ++ 32 :: b→w=l
 | [],[],_,_,_,_,_=>rfl
 | [],c :: w,_,_,_,hw,h=>absurd (by simp [(List.cons.inj h).1]) hw
 | c :: l,[],_,_,hl,_,h=>absurd (by simp [←(List.cons.inj h).1]) hl
 | c :: l,d :: w,t,b,hl,hw,h=>by
  obtain⟨h1,h2⟩:=List.cons.inj h;rw [h1,pre_eq l w t b (fun h'=>hl (List.mem_cons_of_mem _ h')) (fun h'=>hw (List.mem_cons_of_mem _ h')) h2]
theorem occs_glue {l:List UInt8} (hl:32 ∉ l) (hne:l≠ []) : ∀(W:List (List UInt8)),(∀w∈W,32 ∉ w)→(OccS (glue W) (32 :: (l ++ [32]))↔l∈W)
 | [],_=>by
  constructor
  ·rintro ⟨a,b,h⟩
   have:=congrArg List.length h;simp [glue]at this;omega
  ·intro h;cases h
 | w :: W,hW=>by
  have ih:=occs_glue hl hne W (fun x hx=>hW x (List.mem_cons_of_mem _ hx))
  obtain⟨t,ht⟩:=glue_head W;have hw:=hW w (List.mem_cons_self ..)
  constructor
  ·intro h
   rcases occs_cons.1 (show OccS (32 :: (w ++ glue W)) _ from h)with⟨b,hb⟩ |h
   ·have h2:=(List.cons.inj hb).2
    rw [ht]at h2;have:=pre_eq l w t b hl hw (by simpa using h2)
    rw [this];exact List.mem_cons_self ..
   ·exact List.mem_cons_of_mem _ (ih.1 (occs_skip w hw h))
  ·intro h
   rcases List.mem_cons.1 h with rfl|h
   ·exact⟨[],t,by show 32 :: l ++ glue W=_;rw [ht];simp⟩
   ·obtain⟨a,b,hab⟩:=ih.2 h
    exact⟨32 :: (w ++ a),b,by show 32 :: w ++ glue W=_;rw [hab];simp⟩
theorem index_iff: ∀(s sub:List UInt8),sub≠ []→(0≤Lib.index s sub↔OccS s sub)
 | [],sub,hs=>by
  constructor
  ·intro h
   unfold Lib.index at h
   cases sub with
   | nil=>exact absurd rfl hs
   | cons a t=>simp at h
  ·rintro ⟨a,b,h⟩
   have:=congrArg List.length h
   cases sub with
   | nil=>exact absurd rfl hs
   | cons x t=>simp at this
 | c :: s,sub,hs=>by
  have ih:=index_iff s sub hs;rw [occs_cons]
  unfold Lib.index
  by_cases hp:sub.isPrefixOf (c :: s) =true
  ·rw [if_pos hp]
   obtain⟨b,hb⟩:=List.isPrefixOf_iff_prefix.1 hp;exact⟨fun _=>.inl ⟨b,hb.symm⟩,fun _=>by omega⟩
  ·rw [if_neg hp]
   have hn: ¬∃b,c :: s=sub ++ b:=fun⟨b,hb⟩=>hp (List.isPrefixOf_iff_prefix.2 ⟨b,hb.symm⟩)
   have hge:=Lib.index_ge s sub;by_cases hm: (Lib.index s sub == -1) =true
   ·rw [if_pos hm]
    have:Lib.index s sub = -1:=by simpa using hm
    constructor
    ·intro h;omega
    ·rintro (h|h)
     ·exact absurd h hn
     ·have:=ih.2 h;omega
   ·rw [if_neg hm]
    have:Lib.index s sub≠ -1:=by simpa using hm
    constructor
    ·intro h;exact .inr (ih.1 (by omega))
    ·rintro (h|h)
     ·exact absurd h hn
     ·have:=ih.2 h;omega
theorem contains_iff (s sub:List UInt8) (h:sub≠ []) :Lib.contains s sub=true↔OccS s sub:=by
 unfold Lib.contains
 rw [decide_eq_true_iff];exact index_iff s sub h
theorem reserved_iff {l:List UInt8} (hl:32 ∉ l) (hne:l≠ []) :Lib.contains (glue words) (32 :: (l ++ [32])) =true↔l∈words:=by
 rw [contains_iff _ _ (by simp)]
 exact occs_glue hl hne words words_ok
end Go.Proofs.YtiijaaohphokcaaGreatDoor

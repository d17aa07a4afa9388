/- The order of values: cmp.Compare, cmp.Or, value.Compare; worlds that have grown. -/
import Derived.Test.YtiijaaohphokcaaGreatDoorG05
import Derived.Test.YtiijaaohphokcaaGreatDoorG06
import Derived.LoopTactic
import Derived.Sort.Grow
import Derived.Laws.Strings
import Derived.Sort.Statements
set_option maxRecDepth 100000
set_option maxHeartbeats 16000000
namespace Go.Proofs.YtiijaaohphokcaaGreatDoor
open Go.RowKit
def Gr (w w':World) :Prop:=Below w.heap.size w w'∧w.drawn≤w'.drawn
section
variable {a b c:World}
theorem Gr.refl (w:World) :Gr w w:=⟨Below.refl _ _,Nat.le_refl _⟩
theorem Gr.trans (h:Gr a b) (k:Gr b c) :Gr a c:=⟨bT h.1 k.1,Nat.le_trans h.2 k.2⟩
theorem grA (w:World) (x:Obj) :Gr w (w.alloc x):=⟨belA x,Nat.le_refl _⟩
theorem grD (w:World) :Gr w w.drew:=⟨(Below.refl _ _).drew,Nat.le_succ _⟩
theorem Gr.alloc (h:Gr a b) (x:Obj) :Gr a (b.alloc x):=h.trans (grA b x)
theorem Gr.drew (h:Gr a b) :Gr a b.drew:=h.trans (grD b)
theorem Gr.bel (h:Gr a b) :Below a.heap.size a b:=h.1
theorem Gr.grow (h:Gr a b) : ∃q os,b=Sort.grow (a.drewN q) os:=by
 obtain⟨h1,h2⟩:=h;refine⟨b.drawn - a.drawn,b.heap.extract a.heap.size b.heap.size,?_⟩
 have hh:b.heap=a.heap ++ b.heap.extract a.heap.size b.heap.size:=by
  apply Array.ext_getElem?
  intro i;by_cases hi:i<a.heap.size
  ·rw [Array.getElem?_append_left hi];exact h1.block i hi
  ·rw [Array.getElem?_append_right (by omega),Array.getElem?_extract]
   by_cases hb:i<b.heap.size
   ·rw [if_pos (by omega)];congr 1;omega
   ·rw [if_neg (by omega),Array.getElem?_eq_none (by omega)]
 have e1:=h1.os;have e2:=h1.tape;have e3:=h1.output
 unfold Sort.grow World.drewN
 obtain⟨bh,bt,bd,bo,bu⟩:=b;obtain⟨ah,at',ad,ao,au⟩:=a
 dsimp only at *
 subst e1 e2 e3;rw [←hh]
 congr 1
 omega
end
theorem boxes2 {w x:World} {c0 c1:Array Value} {T U:TypeId} (hb:Below ((w.alloc (.cells c0 T)).alloc (.cells c1 U)).heap.size ((w.alloc (.cells c0 T)).alloc (.cells c1 U)) x) :Box x w.heap.size c0 T∧Box x (w.heap.size+1) c1 U∧Below w.heap.size w x:=
 ⟨box1 hb,box2 hb,bel2 hb⟩
theorem new_row {α:Type} {cells:α→List Value} {size:Nat} {xs:List α} {w:World} {T:TypeId} (hs: ∀x,(cells x).length=size) (hl:xs.length≤maxLen) :Row (w.alloc (.cells (xs.flatMap cells).toArray T)) size cells ⟨some ⟨w.heap.size,0,none⟩,xs.length⟩ xs:=by
 refine⟨Nat.le_refl _,hl,fun _=>⟨rfl,by show w.heap.size<_;simp⟩,fun i hi j v hv=> ?_⟩
 have hj:j<size:=by have:=(List.getElem?_eq_some_iff.1 hv).1;rwa [hs]at this
 have h:=new_cells (w:=w) (t:=T) (i*size+j) v (by rw [flatMap_at hs xs i j hi hj];exact hv)
 rw [Addr.add_lit]at h
 show(w.alloc _).cell? ⟨w.heap.size,0+i*size+j,none⟩ =some v
 rw [Nat.add_assoc];exact h
def cmpS (s t:ByteArray) :Int:=if Op.bytesLess s.toList t.toList then -1 else if s.toList == t.toList then 0 else 1
def cmpI (s t:Int) :Int:=if s<t then -1 else if t<s then 1 else 0
def cmpV (a b:V) :Int:=if cmpI a.kind b.kind≠0 then cmpI a.kind b.kind else if cmpI a.num b.num≠0 then cmpI a.num b.num else cmpS a.text b.text
theorem nan_int (a:Int) (w:World) :Calls Tryz.prog 174 #[.int .i64 a] w fun e w'=>e = .returned (.bool false)∧Gr w w':=by
 go_enter Tryz.func174,Tryz.ntmps174;go_wp2;go_ret
 exact⟨rfl,Gr.refl _⟩
theorem nan_i64 (a:Int) (w:World) :Calls Tryz.prog 175 #[.int .i64 a] w fun e w'=>e = .returned (.bool false)∧Gr w w':=by
 go_enter Tryz.func175,Tryz.ntmps175;go_wp2;go_ret
 exact⟨rfl,Gr.refl _⟩
theorem nan_str (a:ByteArray) (w:World) :Calls Tryz.prog 176 #[.string a] w fun e w'=>e = .returned (.bool false)∧Gr w w':=by
 go_enter Tryz.func176,Tryz.ntmps176;go_wp2;go_ret
 exact⟨rfl,Gr.refl _⟩
theorem cmp_int (a b:Int) (w:World) :Calls Tryz.prog 142 #[.int .i64 a,.int .i64 b] w fun e w'=>e = .returned (.int .i64 (cmpI a b))∧Gr w w':=by
 by_cases h1:a<b
 ·rw [show cmpI a b = -1 from if_pos h1]
  go_enter Tryz.func142,Tryz.ntmps142;go_wp2_with (first
   | (go_at_call 174;refine(nan_int a _).mono ?_;rintro e x ⟨rfl,hx⟩;have HX:=ai hx;clear hx)
   | (go_at_call 174;refine(nan_int b _).mono ?_;rintro e y ⟨rfl,hy⟩;have HY:=ai (HX.o.trans hy);clear hy))
  go_ret
  exact⟨rfl,HY.o⟩
 by_cases h2:b<a
 ·rw [show cmpI a b=1 from(if_neg h1).trans (if_pos h2)]
  go_enter Tryz.func142,Tryz.ntmps142;go_wp2_with (first
   | (go_at_call 174;refine(nan_int a _).mono ?_;rintro e x ⟨rfl,hx⟩;have HX:=ai hx;clear hx)
   | (go_at_call 174;refine(nan_int b _).mono ?_;rintro e y ⟨rfl,hy⟩;have HY:=ai (HX.o.trans hy);clear hy))
  go_ret
  exact⟨rfl,HY.o⟩
 ·rw [show cmpI a b=0 from(if_neg h1).trans (if_neg h2)]
  go_enter Tryz.func142,Tryz.ntmps142;go_wp2_with (first
   | (go_at_call 174;refine(nan_int a _).mono ?_;rintro e x ⟨rfl,hx⟩;have HX:=ai hx;clear hx)
   | (go_at_call 174;refine(nan_int b _).mono ?_;rintro e y ⟨rfl,hy⟩;have HY:=ai (HX.o.trans hy);clear hy))
  go_ret
  exact⟨rfl,HY.o⟩
theorem cmp_i64 (a b:Int) (w:World) :Calls Tryz.prog 143 #[.int .i64 a,.int .i64 b] w fun e w'=>e = .returned (.int .i64 (cmpI a b))∧Gr w w':=by
 by_cases h1:a<b
 ·rw [show cmpI a b = -1 from if_pos h1]
  go_enter Tryz.func143,Tryz.ntmps143;go_wp2_with (first
   | (go_at_call 175;refine(nan_i64 a _).mono ?_;rintro e x ⟨rfl,hx⟩;have HX:=ai hx;clear hx)
   | (go_at_call 175;refine(nan_i64 b _).mono ?_;rintro e y ⟨rfl,hy⟩;have HY:=ai (HX.o.trans hy);clear hy))
  go_ret
  exact⟨rfl,HY.o⟩
 by_cases h2:b<a
 ·rw [show cmpI a b=1 from(if_neg h1).trans (if_pos h2)]
  go_enter Tryz.func143,Tryz.ntmps143;go_wp2_with (first
   | (go_at_call 175;refine(nan_i64 a _).mono ?_;rintro e x ⟨rfl,hx⟩;have HX:=ai hx;clear hx)
   | (go_at_call 175;refine(nan_i64 b _).mono ?_;rintro e y ⟨rfl,hy⟩;have HY:=ai (HX.o.trans hy);clear hy))
  go_ret
  exact⟨rfl,HY.o⟩
 ·rw [show cmpI a b=0 from(if_neg h1).trans (if_neg h2)]
  go_enter Tryz.func143,Tryz.ntmps143;go_wp2_with (first
   | (go_at_call 175;refine(nan_i64 a _).mono ?_;rintro e x ⟨rfl,hx⟩;have HX:=ai hx;clear hx)
   | (go_at_call 175;refine(nan_i64 b _).mono ?_;rintro e y ⟨rfl,hy⟩;have HY:=ai (HX.o.trans hy);clear hy))
  go_ret
  exact⟨rfl,HY.o⟩
theorem cmp_str (a b:ByteArray) (w:World) :Calls Tryz.prog 144 #[.string a,.string b] w fun e w'=>e = .returned (.int .i64 (cmpS a b))∧Gr w w':=by
 by_cases h1:Op.bytesLess a.toList b.toList=true
 ·rw [show cmpS a b = -1 from if_pos h1]
  go_enter Tryz.func144,Tryz.ntmps144;go_wp2_with (first
   | (go_at_call 176;refine(nan_str a _).mono ?_;rintro e x ⟨rfl,hx⟩;have HX:=ai hx;clear hx)
   | (go_at_call 176;refine(nan_str b _).mono ?_;rintro e y ⟨rfl,hy⟩;have HY:=ai (HX.o.trans hy);clear hy))
  go_ret
  exact⟨rfl,HY.o⟩
 by_cases h2: (a.toList == b.toList) =true
 ·rw [show cmpS a b=0 from(if_neg h1).trans (if_pos h2)]
  have g1:Op.bytesLess a.toList b.toList=false:=by simpa using h1
  clear h1
  go_enter Tryz.func144,Tryz.ntmps144;go_wp2_with (first
   | (go_at_call 176;refine(nan_str a _).mono ?_;rintro e x ⟨rfl,hx⟩;have HX:=ai hx;clear hx)
   | (go_at_call 176;refine(nan_str b _).mono ?_;rintro e y ⟨rfl,hy⟩;have HY:=ai (HX.o.trans hy);clear hy))
  go_ret
  exact⟨rfl,HY.o⟩
 ·rw [show cmpS a b=1 from(if_neg h1).trans (if_neg h2)]
  have g1:Op.bytesLess a.toList b.toList=false:=by simpa using h1
  have g2: (a.toList == b.toList) =false:=by simpa using h2
  clear h1 h2
  go_enter Tryz.func144,Tryz.ntmps144;go_wp2_with (first
   | (go_at_call 176;refine(nan_str a _).mono ?_;rintro e x ⟨rfl,hx⟩;have HX:=ai hx;clear hx)
   | (go_at_call 176;refine(nan_str b _).mono ?_;rintro e y ⟨rfl,hy⟩;have HY:=ai (HX.o.trans hy);clear hy))
  go_ret
  exact⟨rfl,HY.o⟩
def fnz:List Int→Int
 | []=>0
 | a :: r=>if a≠0 then a else fnz r
theorem fnz_hit: ∀(l:List Int) (k:Nat) (hk:k<l.length),(∀j (hj:j<l.length),j<k→l[j] =0)→l[k]≠0→fnz l=l[k]
 | [],k,hk,_,_=>absurd hk (by simp)
 | a :: r,0,_,_,h=>by
  have h':a≠0:=h
  unfold fnz;rw [if_pos h'];rfl
 | a :: r,k+1,hk,h1,h2=>by
  have h0:a=0:=h1 0 (by simp) (by omega)
  unfold fnz
  rw [if_neg (by simp [h0])]
  exact fnz_hit r k (by simpa using hk) (fun j hj hjk=>h1 (j+1) (by simpa using hj) (by omega)) h2
theorem fnz_none: ∀(l:List Int),(∀j (hj:j<l.length),l[j] =0)→fnz l=0
 | [],_=>rfl
 | a :: r,h=>by
  have h0:a=0:=h 0 (by simp)
  unfold fnz
  rw [if_neg (by simp [h0])]
  exact fnz_none r (fun j hj=>h (j+1) (by simpa using hj))
theorem or_any (M:IL) (w:World) (hM:M.In w) :Calls Tryz.prog 141 #[.slice M.h.ao M.l.length M.h.cap] w fun e w'=>e = .returned (.int .i64 (fnz M.l))∧Gr w w':=by
 have hn:=hM.1.len;have HM:=ai hM;clear hM
 go_enter Tryz.func141,Tryz.ntmps141;go_wp2;go_loopw [8] (fun i wr=>∃k:Nat,k≤M.l.length∧i = .int .i64 k∧Hid (∀j (hj:j<M.l.length),j<k→M.l[j] =0)∧Hid (Gr w wr)) (fun i _=>M.l.length - (intOf i).toNat)
 case atStart=>exact⟨0,Nat.zero_le _,rfl,ai (fun j _ h=>absurd h (by omega)),ai (Gr.refl _)⟩
 case round=>
  obtain⟨k,hk,rfl,HO,HB⟩:=hrel;by_cases hlt:k<M.l.length
  ·have hlti: (k:Int) <M.l.length:=by omega
   have hin:=HM.o.mono HB.o.bel;have hix:=hin.1.ix hlt Tryz.underlying22 szil;have c0:=int_at hin.1 hlt;have hbk:=hin.1.blk hlt;obtain⟨n,hnn⟩ : ∃n,M.l[k] =n:=⟨_,rfl⟩;rw [hnn]at c0;have HN:=ai hnn;clear hnn hin;by_cases h0:n=0
   ·subst h0
    go_wp2;go_roundw
    case rel=>exact⟨k+1,by omega,by go_num,ai (fun j hj h=>if e:j=k then (by subst e;exact HN.o) else HO.o j hj (by omega)),HB⟩
    case measure=>simp [intOf];omega
   ·have HF:=ai (show fnz M.l=n from by rw [fnz_hit M.l k hlt HO.o (by rw [HN.o];exact h0),HN.o])
    have hb: (n != 0) =true:=bne_iff_ne.2 h0;clear h0;go_wp2;go_ret
    exact⟨by rw [HF.o];rfl,HB.o⟩
  ·have hlti: ¬(k:Int) <M.l.length:=by omega
   have HF:=ai (fnz_none M.l (fun j hj=>HO.o j hj (by omega)))
   go_wp2;go_ret
   exact⟨by rw [HF.o];rfl,HB.o⟩
theorem cmpI_64 (a b:Int) :int64 (cmpI a b):=by
 unfold cmpI int64
 split
 ·omega
 ·split<;>omega
theorem cmpS_64 (a b:ByteArray) :int64 (cmpS a b):=by
 unfold cmpS int64
 split
 ·omega
 ·split<;>omega
theorem cmp_fnz (a b:V) :fnz [cmpI a.kind b.kind,cmpI a.num b.num,cmpS a.text b.text] =cmpV a b:=by
 unfold cmpV
 simp only [fnz]
 split
 ·rfl
 split
 ·rfl
 split<;>simp_all
theorem new_il {w:World} (l:List Int) (hl:l.length≤maxLen) (h: ∀n∈l,int64 n) :IL.In (w.alloc (.cells (l.flatMap icells).toArray 3)) ⟨⟨some ⟨w.heap.size,0,none⟩,l.length⟩,l⟩:=⟨new_row (fun _=>rfl) hl,h⟩
theorem vcmp_any (a b:V) (w:World) :Calls Tryz.prog 98 #[.agg #[.int .i64 a.kind,.int .i64 a.num,.string a.text],.agg #[.int .i64 b.kind,.int .i64 b.num,.string b.text]] w fun e w'=>e = .returned (.int .i64 (cmpV a b))∧Gr w w':=by
 obtain⟨ak,an,av⟩:=a;obtain⟨bk,bn,bv⟩:=b;have HCV:=ai (cmp_fnz ⟨ak,an,av⟩ ⟨bk,bn,bv⟩);obtain⟨r,hr⟩ : ∃r,cmpV ⟨ak,an,av⟩ ⟨bk,bn,bv⟩ =r:=⟨_,rfl⟩;rw [hr]at HCV ⊢;clear hr;have hi1:=cmpI_64 ak bk;have hi2:=cmpI_64 an bn;have hi3:=cmpS_64 av bv;have H1:=ai (fun W=>cmp_int ak bk W)
 have H2:=ai (fun W=>cmp_i64 an bn W)
 have H3:=ai (fun W=>cmp_str av bv W)
 dsimp only at HCV
 generalize cmpI ak bk=c1 at *;generalize cmpI an bn=c2 at *;generalize cmpS av bv=c3 at *;have HI:=ai (show∀n∈ [c1,c2,c3],int64 n from by intro n hn;simp at hn;rcases hn with rfl|rfl|rfl<;>assumption)
 clear hi1 hi2 hi3
 go_enter Tryz.func98,Tryz.ntmps98;obtain⟨W,hW⟩ : ∃W,((w.alloc (.cells #[.int .i64 ak,.int .i64 an,.string av] 81)).alloc (.cells #[.int .i64 bk,.int .i64 bn,.string bv] 81)) =W:=⟨_,rfl⟩;have hy00: ∀w':World,Gr W w'→w'.cell? ⟨w.heap.size,0,none⟩ =some (.int .i64 ak):=fun w' h=>by rw [←hW]at h;exact(boxes2 h.1).1.cell (j:=0) rfl
 have hy01: ∀w':World,Gr W w'→w'.cell? ⟨w.heap.size,1,none⟩ =some (.int .i64 an):=fun w' h=>by rw [←hW]at h;exact(boxes2 h.1).1.cell (j:=1) rfl
 have hy02: ∀w':World,Gr W w'→w'.cell? ⟨w.heap.size,2,none⟩ =some (.string av):=fun w' h=>by rw [←hW]at h;exact(boxes2 h.1).1.cell (j:=2) rfl
 have hy10: ∀w':World,Gr W w'→w'.cell? ⟨w.heap.size+1,0,none⟩ =some (.int .i64 bk):=fun w' h=>by rw [←hW]at h;exact(boxes2 h.1).2.1.cell (j:=0) rfl
 have hy11: ∀w':World,Gr W w'→w'.cell? ⟨w.heap.size+1,1,none⟩ =some (.int .i64 bn):=fun w' h=>by rw [←hW]at h;exact(boxes2 h.1).2.1.cell (j:=1) rfl
 have hy12: ∀w':World,Gr W w'→w'.cell? ⟨w.heap.size+1,2,none⟩ =some (.string bv):=fun w' h=>by rw [←hW]at h;exact(boxes2 h.1).2.1.cell (j:=2) rfl
 have HBW:=ai (show∀x,Gr W x→Gr w x from fun x h=>by rw [←hW]at h;exact(((Gr.refl w).alloc _).alloc _).trans h)
 go_wp2;clear hW
 go_region_held3 (fun w'=>Gr W w') ((first|exact(Gr.refl _).drew|exact Gr.trans (by assumption) (by assumption) |exact Gr.trans (by assumption) (grA _ _))) (first
  | (go_at_call 142;with_reducible refine(H1.o _).mono ?_;rintro e x1 ⟨rfl,hb1⟩)
  | (go_at_call 143;with_reducible refine(H2.o _).mono ?_;rintro e x2 ⟨rfl,hb2⟩)
  | (go_at_call 144;with_reducible refine(H3.o _).mono ?_;rintro e x3 ⟨rfl,hb3⟩)
  | (go_at_call 141;refine(or_any ⟨⟨some ⟨_,0,none⟩,3⟩,[c1,c2,c3]⟩ _ (new_il [c1,c2,c3] (by show 3≤maxLen;decide) HI.o)).mono ?_;rintro e x4 ⟨rfl,hb4⟩;dsimp only;rw [HCV.o]))
 go_wp2;go_ret
 exact⟨rfl,HBW.o _ (by assumption)⟩
end Go.Proofs.YtiijaaohphokcaaGreatDoor
/- The order of values and of rows, plainly: it is total. -/
namespace Go.Proofs.YtiijaaohphokcaaGreatDoor
open Go.RowKit
theorem bless_eq: ∀(x y:List UInt8),Op.bytesLess x y=decide (x<y)
 | [],[]=>by simp [Op.bytesLess]
 | _ :: _,[]=>by simp [Op.bytesLess]
 | [],_ :: _=>by simp [Op.bytesLess]
 | a :: x,b :: y=>by
  rw [Op.bytesLess,bless_eq x y];simp only [List.cons_lt_cons_iff];by_cases h1:a<b<;>by_cases h2:a=b<;>by_cases h3:x<y<;>simp [h1,h2,h3]
structure IsCmp {α:Type} (c:α→α→Int) :Prop where
 eq: ∀a b,c a b=0↔a=b
 anti: ∀a b,c a b<0↔0<c b a
 tr: ∀a b d,c a b<0→c b d<0→c a d<0
theorem IsCmp.self {α:Type} {c:α→α→Int} (h:IsCmp c) (a:α) :c a a=0:=(h.eq a a).2 rfl
def thenC (a b:Int) :Int:=if a≠0 then a else b
theorem isCmp_then {α β γ:Type} {c:β→β→Int} {d:γ→γ→Int} (hc:IsCmp c) (hd:IsCmp d) (f:α→β) (g:α→γ) (hfg: ∀a b,f a=f b→g a=g b→a=b) :IsCmp (fun a b:α=>thenC (c (f a) (f b)) (d (g a) (g b))):=by
 have key: ∀a b:α,(c (f a) (f b) =0∧f a=f b∧thenC (c (f a) (f b)) (d (g a) (g b)) =d (g a) (g b))∨(c (f a) (f b)≠0∧f a≠f b∧thenC (c (f a) (f b)) (d (g a) (g b)) =c (f a) (f b)):=fun a b=>by
  by_cases h:c (f a) (f b) =0
  ·exact .inl ⟨h,(hc.eq _ _).1 h,if_neg (fun n=>n h)⟩
  ·exact .inr ⟨h,fun e=>h ((hc.eq _ _).2 e),if_pos h⟩
 refine⟨fun a b=> ?_,fun a b=> ?_,fun a b e=> ?_⟩
 ·show thenC _ _=0↔_
  rcases key a b with⟨h1,h2,h3⟩ | ⟨h1,h2,h3⟩<;>rw [h3]
  ·rw [hd.eq];exact⟨fun h=>hfg a b h2 h,fun h=>by rw [h]⟩
  ·exact⟨fun h=>absurd h h1,fun h=>absurd (by rw [h]) h2⟩
 ·show thenC _ _<0↔0<thenC _ _
  rcases key a b with⟨h1,h2,h3⟩ | ⟨h1,h2,h3⟩<;>rcases key b a with⟨k1,k2,k3⟩ | ⟨k1,k2,k3⟩<;>rw [h3,k3]
  ·exact hd.anti _ _
  ·exact absurd h2.symm k2
  ·exact absurd k2.symm h2
  ·exact hc.anti _ _
 ·show thenC _ _<0→thenC _ _<0→thenC _ _<0
  rcases key a b with⟨h1,h2,h3⟩ | ⟨h1,h2,h3⟩<;>rcases key b e with⟨k1,k2,k3⟩ | ⟨k1,k2,k3⟩<;>rcases key a e with⟨l1,l2,l3⟩ | ⟨l1,l2,l3⟩<;>rw [h3,k3,l3]
  ·exact hd.tr _ _ _
  ·exact absurd (h2.trans k2) l2
  ·exact absurd (h2.symm.trans l2) k2
  ·rw [h2];exact fun _ h=>h
  ·exact absurd (l2.trans k2.symm) h2
  ·rw [←k2];exact fun h _=>h
  ·intro h4 h5
   have h6:=(hc.anti _ _).1 h4;rw [l2]at h6;omega
  ·exact hc.tr _ _ _
theorem isCmp_int:IsCmp cmpI:=by
 refine⟨fun a b=> ?_,fun a b=> ?_,fun a b d=> ?_⟩<;>unfold cmpI<;>(repeat' split)<;>omega
theorem isCmp_str:IsCmp cmpS:=by
 have lt_irr: ∀x:List UInt8,¬x<x:=fun x=>List.lt_irrefl x
 have key: ∀a b:ByteArray,(a.toList<b.toList∧cmpS a b = -1)∨(a=b∧cmpS a b=0)∨(b.toList<a.toList∧cmpS a b=1):=fun a b=>by
  unfold cmpS
  rw [bless_eq];by_cases h1:a.toList<b.toList
  ·exact .inl ⟨h1,by rw [if_pos (decide_eq_true h1)]⟩
  ·by_cases h2:a.toList=b.toList
   ·refine .inr (.inl ⟨?_,by rw [if_neg (by simpa using h1),if_pos (beq_iff_eq.2 h2)]⟩)
    rw [ByteArray.toList_eq,ByteArray.toList_eq]at h2;exact ByteArray.ext (Array.toList_inj.1 h2)
   ·refine .inr (.inr ⟨?_,by rw [if_neg (by simpa using h1),if_neg (by simpa using h2)]⟩)
    exact(Std.lt_trichotomy a.toList b.toList).elim (fun h=>absurd h h1) (fun h=>h.elim (fun h=>absurd h h2) id)
 have nlt: ∀ {x y:List UInt8},x<y→y<x→False:=fun {x y} h1 h2=>lt_irr x (List.lt_trans h1 h2)
 refine⟨fun a b=> ?_,fun a b=> ?_,fun a b d=> ?_⟩
 ·rcases key a b with⟨h1,h2⟩ | ⟨h1,h2⟩ | ⟨h1,h2⟩<;>rw [h2]
  ·exact⟨fun h=>by omega,fun h=>by rw [h]at h1;exact absurd h1 (lt_irr _)⟩
  ·exact⟨fun _=>h1,fun _=>rfl⟩
  ·exact⟨fun h=>by omega,fun h=>by rw [h]at h1;exact absurd h1 (lt_irr _)⟩
 ·rcases key a b with⟨h1,h2⟩ | ⟨h1,h2⟩ | ⟨h1,h2⟩<;>rcases key b a with⟨k1,k2⟩ | ⟨k1,k2⟩ | ⟨k1,k2⟩<;>rw [h2,k2]
  ·exact absurd k1 (fun k=>nlt h1 k)
  ·rw [k1]at h1;exact absurd h1 (lt_irr _)
  ·omega
  ·rw [h1]at k1;exact absurd k1 (lt_irr _)
  ·rw [h1]at k1;exact absurd k1 (lt_irr _)
  ·omega
  ·rw [k1]at h1;exact absurd h1 (lt_irr _)
  ·exact absurd k1 (fun k=>nlt h1 k)
 ·intro h k
  rcases key a b with⟨h1,h2⟩ | ⟨h1,h2⟩ | ⟨h1,h2⟩<;>rcases key b d with⟨k1,k2⟩ | ⟨k1,k2⟩ | ⟨k1,k2⟩<;>rw [h2]at h<;>rw [k2]at k<;>try omega
  rcases key a d with⟨l1,l2⟩ | ⟨l1,l2⟩ | ⟨l1,l2⟩
  ·omega
  ·rw [l1]at h1;exact absurd k1 (fun k=>nlt h1 k)
  ·exact absurd l1 (fun l=>nlt (List.lt_trans h1 k1) l)
theorem isCmp_val:IsCmp cmpV:=by
 have h1:=isCmp_then (α:=V) isCmp_int (isCmp_then (α:=Int×ByteArray) isCmp_int isCmp_str Prod.fst Prod.snd (fun a b h k=>Prod.ext h k)) V.kind (fun v=>(v.num,v.text)) (fun a b h k=>by
  obtain⟨a1,a2,a3⟩:=a;obtain⟨b1,b2,b3⟩:=b;injection k with k1 k2;have h:a1=b1:=h;have k1:a2=b2:=k1;have k2:a3=b3:=k2;rw [h,k1,k2])
 exact h1
def cmpR:List V→List V→Int
 | [],[]=>0
 | [],_ :: _=> -1
 | _ :: _,[]=>1
 | a :: l,b :: m=>thenC (cmpV a b) (cmpR l m)
theorem isCmp_row:IsCmp cmpR:=by
 have e: ∀a b,cmpR a b=0↔a=b:=by
  intro a
  induction a with
  | nil=>intro b;cases b with
   | nil=>exact⟨fun _=>rfl,fun _=>rfl⟩
   | cons=>exact⟨fun h=>absurd (show(-1:Int) =0 from h) (by decide),fun h=>(by cases h)⟩
  | cons a l ih=>intro b;cases b with
   | nil=>exact⟨fun h=>absurd (show(1:Int) =0 from h) (by decide),fun h=>(by cases h)⟩
   | cons b m=>
    show thenC _ _=0↔_
    unfold thenC
    by_cases h:cmpV a b=0
    ·rw [if_neg (fun n=>n h),ih,isCmp_val.eq]at *
     exact⟨fun k=>by rw [h,k],fun k=>by injection k⟩
    ·rw [if_pos h]
     exact⟨fun k=>absurd k h,fun k=>by injection k with k1;exact absurd ((isCmp_val.eq _ _).2 k1) h⟩
 refine⟨e,?_,?_⟩
 ·intro a
  induction a with
  | nil=>intro b;cases b with
   | nil=>exact⟨fun h=>absurd h (by decide),fun h=>absurd h (by decide)⟩
   | cons=>exact⟨fun _=>(by show(0:Int) <1;decide),fun _=>(by show(-1:Int) <0;decide)⟩
  | cons a l ih=>intro b;cases b with
   | nil=>exact⟨fun h=>absurd h (by show¬(1:Int) <0;decide),fun h=>absurd h (by show¬(0:Int) < -1;decide)⟩
   | cons b m=>
    show thenC _ _<0↔0<thenC _ _
    unfold thenC
    by_cases h:a=b
    ·subst h
     rw [if_neg (fun n=>n (isCmp_val.self a)),if_neg (fun n=>n (isCmp_val.self a))]
     exact ih m
    ·rw [if_pos (fun n=>h ((isCmp_val.eq _ _).1 n)),if_pos (fun n=>h ((isCmp_val.eq _ _).1 n).symm)]
     exact isCmp_val.anti a b
 ·intro a
  induction a with
  | nil=>
   intro b d h k
   cases b with
   | nil=>exact absurd h (by decide)
   | cons b m=>
    cases d with
    | nil=>exact absurd k (by show¬(1:Int) <0;decide)
    | cons=>show(-1:Int) <0;decide
  | cons a l ih=>
   intro b d h k
   cases b with
   | nil=>exact absurd h (by show¬(1:Int) <0;decide)
   | cons b m=>
    cases d with
    | nil=>exact absurd k (by show¬(1:Int) <0;decide)
    | cons d n=>
     have h:thenC (cmpV a b) (cmpR l m) <0:=h;have k:thenC (cmpV b d) (cmpR m n) <0:=k
     show thenC (cmpV a d) (cmpR l n) <0
     have hs:=isCmp_val.self
     unfold thenC at *
     by_cases h1:a=b
     ·subst h1
      rw [if_neg (fun n=>n (hs a))]at h
      by_cases h2:a=d
      ·subst h2
       rw [if_neg (fun n=>n (hs a))]at k ⊢
       exact ih m n h k
      ·rw [if_pos (fun n=>h2 ((isCmp_val.eq _ _).1 n))]at k ⊢
       exact k
     ·rw [if_pos (fun n=>h1 ((isCmp_val.eq _ _).1 n))]at h
      by_cases h2:b=d
      ·subst h2
       rw [if_pos (fun n=>h1 ((isCmp_val.eq _ _).1 n))]
       exact h
      ·rw [if_pos (fun n=>h2 ((isCmp_val.eq _ _).1 n))]at k
       have h3:=isCmp_val.tr _ _ _ h k;rw [if_pos (fun n=>by rw [n]at h3;omega)]
       exact h3
theorem IsCmp.swo {α β:Type} [Inhabited β] {c:α→α→Int} (h:IsCmp c) (f:β→α) :Sort.SWO (fun x y:β=>decide (c (f x) (f y) <0)) where
 irrefl x:=by simp [h.self]
 trans x y z h1 h2:=by
  have h1:=of_decide_eq_true h1;have h2:=of_decide_eq_true h2;exact decide_eq_true (h.tr _ _ _ h1 h2)
 ntrans x y z h1 h2:=by
  have h1:=of_decide_eq_false h1;have h2:=of_decide_eq_false h2;refine decide_eq_false fun h3=> ?_
  have key: ∀a b,¬c a b<0→a=b∨c b a<0:=fun a b hn=>by
   by_cases e:c a b=0
   ·exact .inl ((h.eq _ _).1 e)
   ·exact .inr ((h.anti _ _).2 (by omega))
  rcases key _ _ h1 with e1|e1
  ·rw [e1]at h3;exact h2 h3
  ·have:=h.tr _ _ _ e1 h3
   exact h2 this
end Go.Proofs.YtiijaaohphokcaaGreatDoor
/- Conjunctive queries, plainly: their rows on an instance; what a map between two queries says of them; the frozen instance. -/
namespace Go.Proofs.YtiijaaohphokcaaGreatDoor
section
variable {K:Type}
def Tm.at (θ:Nat→K) :Tm K→K
 | .v n=>θ n
 | .c k=>k
abbrev Vb (K:Type):=Nat→Option K
def Vb.ext (θ:Nat→K) (σ:Vb K) :Prop:=∀x u,σ x=some u→θ x=u
open Classical in
noncomputable def bindT (σ:Vb K) (t:Tm K) (u:K) :Option (Vb K):=match t with
 | .c k=>if k=u then some σ else none
 | .v x=>match σ x with
  | some z=>if z=u then some σ else none
  | none=>some (fun y=>if y=x then some u else σ y)
noncomputable def fitsL:Vb K→List (Tm K)→List K→Option (Vb K)
 | σ,t :: l,u :: row=>(bindT σ t u).bind fun σ'=>fitsL σ' l row
 | σ,_,_=>some σ
noncomputable def evalL (D:Nat→List (List K)) (hd:Vb K→List K) :List (Lt K)→Vb K→List (List K)
 | [],σ=> [hd σ]
 | l :: ls,σ=>(D l.1).flatMap fun row=>match fitsL σ l.2 row with
  | none=> []
  | some σ'=>evalL D hd ls σ'
theorem bindT_some {σ σ':Vb K} {t:Tm K} {u:K} (h:bindT σ t u=some σ') : (∀θ,σ'.ext θ↔(σ.ext θ∧t.at θ=u))∧(∀y,σ' y≠none↔(σ y≠none∨t = .v y)):=by
 cases t with
 | c k=>
  simp only [bindT]at h
  split at h
  ·rename_i hk
   injection h with h;subst h;refine⟨fun θ=>⟨fun h=>⟨h,hk⟩,fun h=>h.1⟩,fun y=>⟨.inl,fun h=> ?_⟩⟩
   rcases h with h|h
   ·exact h
   ·cases h
  ·cases h
 | v x=>
  simp only [bindT]at h
  split at h
  ·rename_i z hz
   split at h
   ·rename_i hk
    injection h with h;subst h;refine⟨fun θ=>⟨fun h=>⟨h,by rw [←hk];exact h x z hz⟩,fun h=>h.1⟩,fun y=>⟨.inl,fun h=> ?_⟩⟩
    rcases h with h|h
    ·exact h
    ·injection h with h;rw [←h,hz];exact fun e=>by cases e
   ·cases h
  ·rename_i hz
   injection h with h;subst h;refine⟨fun θ=>⟨fun h=>⟨fun y w hy=>h y w ?_,h x u (if_pos rfl)⟩,fun h y w hy=> ?_⟩,fun y=> ?_⟩
   ·show(if y=x then some u else σ y) =some w
    rw [if_neg (fun e=>by rw [e,hz]at hy;cases hy)];exact hy
   ·by_cases e:y=x
    ·have hy: (if y=x then some u else σ y) =some w:=hy
     rw [if_pos e]at hy;injection hy with hy;rw [←hy,e];exact h.2
    ·have hy: (if y=x then some u else σ y) =some w:=hy
     rw [if_neg e]at hy;exact h.1 y w hy
   ·show(if y=x then some u else σ y)≠none↔_
    by_cases e:y=x
    ·rw [if_pos e]
     exact⟨fun _=>.inr (by rw [e]),fun _ h=>by cases h⟩
    ·rw [if_neg e]
     refine⟨.inl,fun h=> ?_⟩
     rcases h with h|h
     ·exact h
     ·injection h with h;exact absurd h.symm e
theorem bindT_none {σ:Vb K} {t:Tm K} {u:K} (h:bindT σ t u=none) (θ:Nat→K) : ¬(σ.ext θ∧t.at θ=u):=by
 rintro ⟨h1,h2⟩
 cases t with
 | c k=>
  simp only [bindT]at h
  split at h
  ·cases h
  ·rename_i hk;exact hk h2
 | v x=>
  simp only [bindT]at h
  split at h
  ·rename_i z hz
   split at h
   ·cases h
   ·rename_i hk;exact hk ((h1 x z hz).symm.trans h2)
  ·cases h
theorem fitsL_some: ∀ {l:List (Tm K)} {row:List K} {σ σ':Vb K},l.length=row.length→fitsL σ l row=some σ'→(∀θ,σ'.ext θ↔(σ.ext θ∧l.map (Tm.at θ) =row))∧(∀y,σ' y≠none↔(σ y≠none∨ .v y∈l))
 | [],[],σ,σ',_,h=>by
  injection h with h;subst h;exact⟨fun θ=>⟨fun h=>⟨h,rfl⟩,fun h=>h.1⟩,fun y=>⟨.inl,fun h=>h.elim id (fun h=>by cases h)⟩⟩
 | t :: l,u :: row,σ,σ',hl,h=>by
  obtain⟨σ1,h1,h2⟩:=Option.bind_eq_some_iff.1 h;obtain⟨a1,a2⟩:=bindT_some h1;obtain⟨b1,b2⟩:=fitsL_some (Nat.succ.inj hl) h2;refine⟨fun θ=> ?_,fun y=> ?_⟩
  ·rw [b1,a1,List.map_cons,List.cons_eq_cons]
   exact and_assoc
  ·rw [b2,a2,List.mem_cons,or_assoc,show(t=Tm.v y) = (Tm.v y=t)from propext ⟨Eq.symm,Eq.symm⟩]
theorem fitsL_none: ∀ {l:List (Tm K)} {row:List K} {σ:Vb K},fitsL σ l row=none→∀θ,¬(σ.ext θ∧l.map (Tm.at θ) =row)
 | [],_,σ,h=>by simp [fitsL]at h
 | _ :: _,[],σ,h=>by simp [fitsL]at h
 | t :: l,u :: row,σ,h=>by
  rintro θ ⟨h1,h2⟩;rw [List.map_cons,List.cons_eq_cons]at h2
  cases h3:bindT σ t u with
  | none=>exact bindT_none h3 θ ⟨h1,h2.1⟩
  | some σ1=>
   have h4: (bindT σ t u).bind (fun σ'=>fitsL σ' l row) =none:=h
   rw [h3]at h4;exact fitsL_none h4 θ ⟨((bindT_some h3).1 θ).2 ⟨h1,h2.1⟩,h2.2⟩
def headL (d:K) (hd:List (Tm K)) (σ:Vb K) :List K:=hd.map (Tm.at fun x=>(σ x).getD d)
theorem mem_evalL {D:Nat→List (List K)} {d:K} {hd:List (Tm K)} : ∀ {ls:List (Lt K)} {σ:Vb K} {r:List K},(∀l∈ls,∀row∈D l.1,l.2.length=row.length)→(∀x,Tm.v x∈hd→σ x≠none∨∃l∈ls,Tm.v x∈l.2)→
  (r∈evalL D (headL d hd) ls σ↔∃θ,σ.ext θ∧(∀l∈ls,l.2.map (Tm.at θ)∈D l.1)∧hd.map (Tm.at θ) =r)
 | [],σ,r,hw,hc=>by
  have key: ∀θ,σ.ext θ→hd.map (Tm.at θ) =headL d hd σ:=fun θ hθ=>List.map_congr_left fun t ht=>by
   cases t with
   | c k=>rfl
   | v x=>
    cases hx:σ x with
    | none=>exact absurd hx ((hc x ht).elim id (fun⟨l,hl,_⟩=>by cases hl))
    | some u=>show θ x= (σ x).getD d;rw [hx];exact hθ x u hx
  show r∈ [headL d hd σ]↔_
  rw [List.mem_singleton];refine⟨fun h=>⟨fun x=>(σ x).getD d,fun x u hx=>by show(σ x).getD d=u;rw [hx];rfl,fun l hl=>(by cases hl),h.symm⟩,fun⟨θ,h1,_,h3⟩=>h3.symm.trans (key θ h1)⟩
 | l :: ls,σ,r,hw,hc=>by
  show r∈(D l.1).flatMap _↔_
  rw [List.mem_flatMap]
  constructor
  ·rintro ⟨row,hrow,hr⟩
   cases hf:fitsL σ l.2 row with
   | none=>rw [hf]at hr;cases hr
   | some σ'=>
    rw [hf]at hr;obtain⟨a1,a2⟩:=fitsL_some (hw l List.mem_cons_self row hrow) hf;obtain⟨θ,h1,h2,h3⟩:=(mem_evalL (fun m hm=>hw m (List.mem_cons_of_mem _ hm)) (fun x hx=>by
     rcases hc x hx with h| ⟨m,hm,hx2⟩
     ·exact .inl ((a2 x).2 (.inl h))
     ·rcases List.mem_cons.1 hm with rfl|hm
      ·exact .inl ((a2 x).2 (.inr hx2))
      ·exact .inr ⟨m,hm,hx2⟩)).1 hr
    obtain⟨h4,h5⟩:=(a1 θ).1 h1;refine⟨θ,h4,fun m hm=> ?_,h3⟩
    rcases List.mem_cons.1 hm with rfl|hm
    ·rw [h5];exact hrow
    ·exact h2 m hm
  ·rintro ⟨θ,h1,h2,h3⟩
   refine⟨l.2.map (Tm.at θ),h2 l List.mem_cons_self,?_⟩
   cases hf:fitsL σ l.2 (l.2.map (Tm.at θ))with
   | none=>exact absurd ⟨h1,rfl⟩ (fitsL_none hf θ)
   | some σ'=>
    obtain⟨a1,a2⟩:=fitsL_some (by rw [List.length_map]) hf
    show r∈evalL D (headL d hd) ls σ'
    refine(mem_evalL (fun m hm=>hw m (List.mem_cons_of_mem _ hm)) (fun x hx=> ?_)).2 ⟨θ,(a1 θ).2 ⟨h1,rfl⟩,fun m hm=>h2 m (List.mem_cons_of_mem _ hm),h3⟩
    rcases hc x hx with h| ⟨m,hm,hx2⟩
    ·exact .inl ((a2 x).2 (.inl h))
    ·rcases List.mem_cons.1 hm with rfl|hm
     ·exact .inl ((a2 x).2 (.inr hx2))
     ·exact .inr ⟨m,hm,hx2⟩
noncomputable def Cj.rows (D:Nat→List (List K)) (d:K) (q:Cj K) :List (List K):=evalL D (headL d q.head) q.lits (fun _=>none)
theorem mem_rows {D:Nat→List (List K)} {d:K} {q:Cj K} {r:List K} (hw: ∀l∈q.lits,∀row∈D l.1,l.2.length=row.length) (hc:Cov q) :r∈q.rows D d↔∃θ,(∀l∈q.lits,l.2.map (Tm.at θ)∈D l.1)∧q.head.map (Tm.at θ) =r:=by
 unfold Cj.rows
 rw [mem_evalL hw (fun x hx=>.inr (hc.1 x hx))]
 exact⟨fun⟨θ,_,h2,h3⟩=>⟨θ,h2,h3⟩,fun⟨θ,h2,h3⟩=>⟨θ,fun x u h=>(by cases h),h2,h3⟩⟩
theorem Tm.at_app (θ:Nat→K) (h:Nat→Tm K) (t:Tm K) : (Tm.app h t).at θ=t.at (fun x=>(h x).at θ):=by cases t<;>rfl
theorem rows_sub {D:Nat→List (List K)} {d:K} {a b:Cj K} (ha: ∀l∈a.lits,∀row∈D l.1,l.2.length=row.length) (hb: ∀l∈b.lits,∀row∈D l.1,l.2.length=row.length) (ca:Cov a) (cb:Cov b) (h:Hom b a) {r:List K} (hr:r∈a.rows D d) :r∈b.rows D d:=by
 obtain⟨f,h1,h2⟩:=h;obtain⟨θ,h3,h4⟩:=(mem_rows ha ca).1 hr;refine(mem_rows hb cb).2 ⟨fun x=>(f x).at θ,fun l hl=> ?_,?_⟩
 ·have:=h3 _ (h2 l hl)
  unfold Lt.app at this
  rw [List.map_map]at this
  rwa [List.map_congr_left (fun t _=>(Tm.at_app θ f t).symm)]
 ·rw [List.map_congr_left (fun t _=>(Tm.at_app θ f t).symm),←h4,←h1,List.map_map];rfl
structure NewVal (ν:Nat→K) (a b:Cj K) :Prop where
 inj: ∀x y,Occ a x→Occ a y→ν x=ν y→x=y
 na: ∀l∈a.lits,∀k,Tm.c k∈l.2→∀x,Occ a x→ν x≠k
 nah: ∀k,Tm.c k∈a.head→∀x,Occ a x→ν x≠k
 nb: ∀l∈b.lits,∀k,Tm.c k∈l.2→∀x,Occ a x→ν x≠k
 nbh: ∀k,Tm.c k∈b.head→∀x,Occ a x→ν x≠k
open Classical in
noncomputable def backT (a:Cj K) (ν:Nat→K) (u:K) :Tm K:=if h: ∃x,Occ a x∧ν x=u then .v (Classical.choose h) else .c u
theorem backT_v {a b:Cj K} {ν:Nat→K} (hn:NewVal ν a b) {x:Nat} (hx:Occ a x) :backT a ν (ν x) = .v x:=by
 have h: ∃y,Occ a y∧ν y=ν x:=⟨x,hx,rfl⟩
 unfold backT
 rw [dif_pos h];have:=Classical.choose_spec h;rw [hn.inj _ _ this.1 hx this.2]
theorem backT_c {a:Cj K} {ν:Nat→K} {k:K} (h: ∀x,Occ a x→ν x≠k) :backT a ν k = .c k:=by
 unfold backT
 rw [dif_neg (fun⟨x,h1,h2⟩=>h x h1 h2)]
theorem frozen_hom {D:Nat→List (List K)} {d:K} {a b:Cj K} {ν:Nat→K} (hn:NewVal ν a b) (hD: ∀t row,row∈D t↔∃l∈a.lits,l.1=t∧l.2.map (Tm.at ν) =row) (hb: ∀l∈b.lits,∀row∈D l.1,l.2.length=row.length) (ca:Cov a) (cb:Cov b) (hr:a.head.map (Tm.at ν)∈b.rows D d) :Hom b a:=by
 obtain⟨θ,h1,h2⟩:=(mem_rows hb cb).1 hr;have key: ∀ {l m:List (Tm K)},(∀k,Tm.c k∈l→∀x,Occ a x→ν x≠k)→(∀k,Tm.c k∈m→∀x,Occ a x→ν x≠k)→(∀x,Tm.v x∈m→Occ a x)→l.map (Tm.at θ) =m.map (Tm.at ν)→l.map (Tm.app fun x=>backT a ν (θ x)) =m:=by
  intro l
  induction l with
  | nil=>
   intro m _ _ _ e
   cases m with
   | nil=>rfl
   | cons _ _=>cases e
  | cons t l ih=>
   intro m k1 k2 k3 e
   cases m with
   | nil=>cases e
   | cons u m=>
    rw [List.map_cons,List.map_cons,List.cons_eq_cons]at e;rw [List.map_cons,ih (fun k hk=>k1 k (List.mem_cons_of_mem _ hk)) (fun k hk=>k2 k (List.mem_cons_of_mem _ hk)) (fun x hx=>k3 x (List.mem_cons_of_mem _ hx)) e.2]
    have hbu:backT a ν (u.at ν) =u:=by
     cases u with
     | v y=>exact backT_v hn (k3 y List.mem_cons_self)
     | c k=>exact backT_c (k2 k List.mem_cons_self)
    cases t with
    | v x=>
     show backT a ν (θ x) :: m=_
     rw [show θ x=u.at ν from e.1,hbu]
    | c k=>
     have:=backT_c (k1 k List.mem_cons_self)
     show Tm.c k :: m=_
     rw [←this,show k=u.at ν from e.1,hbu]
 refine⟨fun x=>backT a ν (θ x),key hn.nbh hn.nah ca.1 h2,fun l hl=> ?_⟩
 obtain⟨m,hm,e1,e2⟩:=(hD _ _).1 (h1 l hl);have:=key (hn.nb l hl) (hn.na m hm) (fun x hx=>⟨m,hm,hx⟩) e2.symm
 unfold Lt.app
 rw [this,←e1];exact hm
theorem frozen_own {D:Nat→List (List K)} {d:K} {a:Cj K} {ν:Nat→K} (hD: ∀t row,row∈D t↔∃l∈a.lits,l.1=t∧l.2.map (Tm.at ν) =row) (ha: ∀l∈a.lits,∀row∈D l.1,l.2.length=row.length) (ca:Cov a) :a.head.map (Tm.at ν)∈a.rows D d:=
 (mem_rows ha ca).2 ⟨ν,fun l hl=>(hD _ _).2 ⟨l,hl,rfl,rfl⟩,rfl⟩
end
end Go.Proofs.YtiijaaohphokcaaGreatDoor

/- A part of the proof of AlgebraMade. -/
import Derived.Test.YtogalchclmmfgaaDoorProg
import Derived.Test.YtogalchclmmfgaaDoorP01
import Derived.Shelf.Strings.Search1
import Derived.Shelf.Strings.Search2
import Derived.Shelf.Strings.Search3
import Derived.Shelf.LaysM
import Derived.Shelf.Strings.Shaped
import Derived.Shelf.Slices.Turned
import Derived.Shelf.Slices.Equal
import Derived.Ground.Names2Prog
import Derived.Shelf.Slices.Clone
import Derived.Ground.SlgnProg
import Derived.Shelf.SlicesE.Clone
set_option maxRecDepth 100000
set_option maxHeartbeats 16000000
namespace Go.Proofs
open Go.Shelf
def Tryd.lays217_ren:Go.Shelf.Ren:=⟨fun|217=>113|266=>124|n=>n,fun|9=>9|5=>5|3=>3|n=>n,fun|n=>n⟩
def Tryd.lays224_ren:Go.Shelf.Ren:=⟨fun|224=>115|n=>n,fun|3=>3|n=>n,fun|n=>n⟩
def Tryd.lays314_ren:Go.Shelf.Ren:=⟨fun|314=>125|n=>n,fun|9=>9|51=>152|3=>3|4=>4|5=>5|46=>145|n=>n,fun|n=>n⟩
def Tryd.lays267_ren:Go.Shelf.Ren:=⟨fun|267=>116|314=>125|n=>n,fun|9=>9|3=>3|146=>153|51=>152|4=>4|5=>5|46=>145|n=>n,fun|n=>n⟩
def Tryd.lays219_ren:Go.Shelf.Ren:=⟨fun|219=>98|217=>113|225=>114|224=>115|267=>116|266=>124|314=>125|n=>n,fun|9=>9|3=>3|4=>4|5=>5|46=>145|146=>153|51=>152|n=>n,fun|1=>1|n=>n⟩
def Tryd.lays143_ren:Go.Shelf.Ren:=⟨fun|143=>79|219=>98|217=>113|225=>114|224=>115|267=>116|266=>124|314=>125|n=>n,fun|9=>9|3=>3|4=>4|5=>5|46=>145|146=>153|51=>152|n=>n,fun|1=>1|n=>n⟩
def Tryd.lays144_ren:Go.Shelf.Ren:=⟨fun|144=>44|143=>79|219=>98|217=>113|225=>114|224=>115|267=>116|266=>124|314=>125|n=>n,fun|9=>9|4=>4|3=>3|5=>5|46=>145|146=>153|51=>152|n=>n,fun|1=>1|n=>n⟩
def Tryd.laysM219_ren:Go.Shelf.Ren:=⟨fun|219=>98|217=>113|225=>114|224=>115|267=>116|266=>124|314=>125|n=>n,fun|9=>9|3=>3|4=>4|5=>5|46=>145|146=>153|51=>152|n=>n,fun|1=>1|n=>n⟩
def Tryd.laysM143_ren:Go.Shelf.Ren:=⟨fun|143=>79|219=>98|217=>113|225=>114|224=>115|267=>116|266=>124|314=>125|n=>n,fun|9=>9|3=>3|4=>4|5=>5|46=>145|146=>153|51=>152|n=>n,fun|1=>1|n=>n⟩
def Tryd.laysM144_ren:Go.Shelf.Ren:=⟨fun|144=>44|143=>79|219=>98|217=>113|225=>114|224=>115|267=>116|266=>124|314=>125|n=>n,fun|9=>9|4=>4|3=>3|5=>5|46=>145|146=>153|51=>152|n=>n,fun|1=>1|n=>n⟩
theorem Tryd.laysM144:Go.Proofs.LaysM.n144 Tryd.prog Tryd.laysM144_ren:= {
 mixed:=by kernel_rfl
 f143:=Tryd.func79.trans (congrArg some (by kernel_rfl))
 f144:=Tryd.func44.trans (congrArg some (by kernel_rfl))
 f217:=Tryd.func113.trans (congrArg some (by kernel_rfl))
 f219:=Tryd.func98.trans (congrArg some (by kernel_rfl))
 f224:=Tryd.func115.trans (congrArg some (by kernel_rfl))
 f225:=Tryd.func114.trans (congrArg some (by kernel_rfl))
 f266:=Tryd.func124.trans (congrArg some (by kernel_rfl))
 f267:=Tryd.func116.trans (congrArg some (by kernel_rfl))
 f314:=Tryd.func125.trans (congrArg some (by kernel_rfl))
 t3:=Tryd.underlying3
 a3:=Tryd.isAgg3
 z3:=Tryd.sizeOf3
 v3:=Tryd.zeroValue3
 t4:=Tryd.underlying4
 a4:=Tryd.isAgg4
 z4:=Tryd.sizeOf4
 v4:=Tryd.zeroValue4
 t5:=Tryd.underlying5
 a5:=Tryd.isAgg5
 z5:=Tryd.sizeOf5
 v5:=Tryd.zeroValue5
 t9:=Tryd.underlying9
 a9:=Tryd.isAgg9
 z9:=Tryd.sizeOf9
 v9:=Tryd.zeroValue9
 t46:=Tryd.underlying145
 a46:=Tryd.isAgg145
 z46:=Tryd.sizeOf145
 v46:=Tryd.zeroValue145
 t51:=Tryd.underlying152
 a51:=Tryd.isAgg152
 z51:=Tryd.sizeOf152
 v51:=Tryd.zeroValue152
 t146:=Tryd.underlying153
 a146:=Tryd.isAgg153
 z146:=Tryd.sizeOf153
 v146:=Tryd.zeroValue153
 g1:=by kernel_rfl
 i3:=by kernel_rfl
 i4:=by kernel_rfl
 i5:=by kernel_rfl
 i9:=by kernel_rfl
 i46:=by kernel_rfl
 i51:=by kernel_rfl
 i146:=by kernel_rfl
 m1:=by kernel_rfl
 s1_3:=fun w h=>Go.Proofs.cell_of_shapedOpen_int (zero:=#[.int .i64 0]) (t:=3) h (of_decide_eq_true (by kernel_rfl)) (by kernel_rfl) rfl (by kernel_rfl) (by kernel_rfl) Tryd.underlying3 }
open Go.RowKit Go.Lib in
theorem Tryd.strings_Contains_shaped (s sub:ByteArray) (w:World) (h:w.ShapedOpen Tryd.prog) (hs:s.size<4294967281) :
  Calls Tryd.prog 44 #[.string s,.string sub] w fun e w'=>e = .returned (.bool (Lib.contains s.data.toList sub.data.toList))∧w'=w:=Any.strings_Contains_shaped Tryd.laysM144 s sub w h hs
def Tryd.lays108_ren:Go.Shelf.Ren:=⟨fun|108=>117|n=>n,fun|28=>22|3=>3|0=>0|4=>4|n=>n,fun|n=>n⟩
def Tryd.lays107_ren:Go.Shelf.Ren:=⟨fun|107=>99|108=>117|n=>n,fun|28=>22|3=>3|4=>4|0=>0|n=>n,fun|n=>n⟩
def Tryd.lays111_ren:Go.Shelf.Ren:=⟨fun|111=>68|n=>n,fun|28=>22|3=>3|4=>4|0=>0|n=>n,fun|n=>n⟩
def Tryd.laysNm215_ren:Go.Shelf.Ren:=⟨fun|15=>63|n=>n,fun|22=>22|3=>3|4=>4|n=>n,fun|n=>n⟩
theorem Tryd.laysNm215:Go.Proofs.Lays2.n15 Tryd.prog Tryd.laysNm215_ren:= {
 mixed:=by kernel_rfl
 f15:=Tryd.func63.trans (congrArg some (by kernel_rfl))
 t3:=Tryd.underlying3
 a3:=Tryd.isAgg3
 z3:=Tryd.sizeOf3
 v3:=Tryd.zeroValue3
 t4:=Tryd.underlying4
 a4:=Tryd.isAgg4
 z4:=Tryd.sizeOf4
 v4:=Tryd.zeroValue4
 t22:=Tryd.underlying22
 a22:=Tryd.isAgg22
 z22:=Tryd.sizeOf22
 v22:=Tryd.zeroValue22
 i3:=by kernel_rfl }
open Go.RowKit Go.Lib in
theorem Tryd.slices_Clone_int (b off n c:Nat) (zs:List Int) (w:World) (hz:n≤zs.length) (hbig:n*8≤140737488355328) (hc: ∀j,j<zs.length→w.cell? ⟨b,off+j,none⟩ =some (.int .i64 (zs.getD j 0))) :
  Calls Tryd.prog 63 #[.slice (some ⟨b,off,none⟩) n c] w fun e w'=>∃v',e = .returned v'∧w'.ownsRow w.heap.size 3 1 v' n ((zs.take n).map (Value.int .i64))∧v'≠ .slice none 0 0∧Below w.heap.size w w':=Any.slices_Clone_int Tryd.laysNm215 b off n c zs w hz hbig hc
def Tryd.laysSlE041_f63_ren:Go.Shelf.Ren:=⟨fun|41=>63|n=>n,fun|22=>22|23=>3|4=>4|n=>n,fun|n=>n⟩
def Tryd.laysSlE041_f85_ren:Go.Shelf.Ren:=⟨fun|41=>85|n=>n,fun|22=>35|23=>22|4=>4|n=>n,fun|n=>n⟩
end Go.Proofs
namespace Go.Proofs.YtogalchclmmfgaaDoor
open Go.RowKit
theorem sz41: (Tryd.prog.info? 45).map (·.size) =some 6:=by kernel_rfl
mutual
def Ex.size:Ex→Nat
 | ⟨_,_,_,_,_,_,kids⟩=>1+Ex.sizes kids
def Ex.sizes:List Ex→Nat
 | []=>0
 | k :: r=>Ex.size k+Ex.sizes r
end
theorem Ex.size_eq (e:Ex) :e.size=1+Ex.sizes e.kids:=by cases e;rw [Ex.size]
theorem Ex.sizes_snoc (l:List Ex) (x:Ex) :Ex.sizes (l ++ [x]) =Ex.sizes l+x.size:=by
 induction l with
 | nil=>simp [Ex.sizes]
 | cons a l ih=>simp only [List.cons_append,Ex.sizes,ih];omega
theorem Ex.sizes_take {l:List Ex} {k:Nat} (h:k<l.length) :Ex.sizes (l.take (k+1)) =Ex.sizes (l.take k) +l[k].size:=by
 rw [List.take_succ_eq_append_getElem h,Ex.sizes_snoc]
theorem wrap_add (a b:Int) :wrap64 (wrap64 a+wrap64 b) =wrap64 (a+b):=by unfold wrap64;omega
theorem rsize_any {w0:World} {e:Ex} (h0:e.In w0) : ∀w:World,e.In w→
  Calls Tryd.prog 69 #[.agg #[.int .i64 e.op,.int .i64 e.typ,.int .i64 e.num,.string e.text,.int .i64 e.col,.slice e.kh.ao e.kids.length e.kh.cap]] w
   fun r w'=>r = .returned (.int .i64 (wrap64 (e.size:Int)))∧Below w.heap.size w w':=by
 induction h0 with
 | mk e _ _ _ ih=>
 intro w hin;have IH:=ai ih;clear ih;have hn:=hin.row.len
 go_enter Tryd.func69,Tryd.ntmps69;go_wp2;go_loopw [3,4] (fun v i wr=>∃k:Nat,k≤e.kids.length∧i = .int .i64 k∧v = .int .i64 (wrap64 ((1+Ex.sizes (e.kids.take k) :Nat) :Int))∧Below (w.heap.size+1) (w.alloc (.cells #[.int .i64 e.op,.int .i64 e.typ,.int .i64 e.num,.string e.text,.int .i64 e.col,.slice e.kh.ao e.kids.length e.kh.cap] 45)) wr) (fun _ i _=>e.kids.length - (intOf i).toNat)
 case atStart=>exact⟨0,Nat.zero_le _,rfl,by simp [Ex.sizes,wrap64],Below.refl _ _⟩
 case round=>
  obtain⟨k,hk,rfl,rfl,hbw0⟩:=hrel;have hbw:Below w.heap.size w wr:=(belA _).trans (hbw0.mono (by omega))
  have HB:=ai hbw;have HB0:=ai hbw0;have hin':=hin.mono hbw;have hbox:wr.cell? ⟨w.heap.size,5,none⟩ =some (.slice e.kh.ao e.kids.length e.kh.cap):=by rw [hbw0.cell (by simp)];simp [go_sem]
  have hszl:w.heap.size+1≤wr.heap.size:=by have:=hbw0.size;simpa using this
  clear hbw0 hbw;generalize hV:wrap64 ((1+Ex.sizes (e.kids.take k) :Nat) :Int) =V;have HV:=ai hV;clear hV;by_cases hlt:k<e.kids.length
  ·have hix:=hin'.row.ix hlt Tryd.underlying37 sz41
   obtain⟨c0,c1,c2,c3,c4,c5⟩:=ex_at hin'.row hlt;have hkin:=ai (hin'.kid _ (List.getElem_mem hlt));go_wp2_with (go_at_call 69;refine(IH.o _ (List.getElem_mem hlt) _ hkin.o).mono ?_;rintro r w1 ⟨rfl,hb1⟩;have HB1:=ai hb1;clear hb1)
   go_roundw
   case rel=>
    refine⟨k+1,by omega,by go_num,?_,HB0.o.trans (HB1.o.mono hszl)⟩
    rw [←HV.o,wrap_add,Ex.sizes_take hlt]
    congr 3
    omega
   case measure=>simp [intOf];omega
  ·go_wp2
   go_ret
   have hk':k=e.kids.length:=by omega
   refine⟨ret1 ?_,HB.o⟩
   rw [←HV.o,hk',List.take_length,Ex.size_eq]
end Go.Proofs.YtogalchclmmfgaaDoor
namespace Go.Proofs.YtogalchclmmfgaaDoor
open Go.RowKit
open Classical in
noncomputable def eqb {α:Type} (x y:α) :Bool:=decide (x=y)
theorem eqb_yes {α:Type} {x y:α} (h:x=y) :eqb x y=true:=by unfold eqb;simp [h]
theorem eqb_no {α:Type} {x y:α} (h:x≠y) :eqb x y=false:=by unfold eqb;simp [h]
theorem eqb_iff {α β:Type} {x y:α} {u v:β} (h:x=y↔u=v) :eqb x y=eqb u v:=by
 by_cases e:x=y
 ·rw [eqb_yes e,eqb_yes (h.1 e)]
 ·rw [eqb_no e,eqb_no (fun f=>e (h.2 f))]
theorem eqb_true {α:Type} {x y:α} (h:eqb x y=true) :x=y:=by
 by_cases e:x=y
 ·exact e
 ·rw [eqb_no e]at h;cases h
theorem eqb_false {α:Type} {x y:α} (h:eqb x y=false) :x≠y:=fun e=>by rw [eqb_yes e]at h;cases h
structure XE where
 op:Int
 typ:Int
 num:Int
 text:List UInt8
 col:Int
 kids:List XE
mutual
def Ex.er:Ex→XE
 | ⟨op,typ,num,text,col,_,kids⟩=>⟨op,typ,num,text.toList,col,Ex.ers kids⟩
def Ex.ers:List Ex→List XE
 | []=> []
 | k :: r=>Ex.er k :: Ex.ers r
end
theorem Ex.ers_map (l:List Ex) :Ex.ers l=l.map Ex.er:=by
 induction l with
 | nil=>rfl
 | cons a l ih=>simp only [Ex.ers,ih,List.map_cons]
theorem Ex.er_eq (e:Ex) :e.er= ⟨e.op,e.typ,e.num,e.text.toList,e.col,e.kids.map Ex.er⟩:=by
 cases e;rw [Ex.er,Ex.ers_map]
theorem er_iff (a b:Ex) :a.er=b.er↔a.op=b.op∧a.typ=b.typ∧a.num=b.num∧a.text.toList=b.text.toList∧a.col=b.col∧a.kids.map Ex.er=b.kids.map Ex.er:=by
 rw [Ex.er_eq a,Ex.er_eq b,XE.mk.injEq]
theorem map_ne_len {α β:Type} {f:α→β} {a b:List α} (h:a.length≠b.length) :a.map f≠b.map f:=fun e=>h (by have:=congrArg List.length e;simpa using this)
theorem map_ne_at {α β:Type} {f:α→β} {a b:List α} {j:Nat} (ha:j<a.length) (hb:j<b.length) (h:f a[j]≠f b[j]) :a.map f≠b.map f:=fun e=>h (by
 have h1: (a.map f)[j]? = (b.map f)[j]? :=by rw [e]
 simpa [ha,hb]using h1)
theorem map_eq_all {α β:Type} {f:α→β} {a b:List α} (hl:a.length=b.length) (h: ∀j (ha:j<a.length) (hb:j<b.length),f a[j] =f b[j]) :a.map f=b.map f:=by
 refine List.ext_getElem (by simpa using hl) (fun j h1 h2=> ?_)
 simp only [List.getElem_map];exact h j (by simpa using h1) (by simpa using h2)
theorem eqf_ex (ha hb:Hd) (a b:List Ex) (w:World) (hra:Row w 6 Ex.cells ha a) (hrb:Row w 6 Ex.cells hb b) (hia: ∀x∈a,x.In w) (hib: ∀x∈b,x.In w)
  (IH:Hid (∀x∈a,∀(y:Ex) (W:World),(x.In W)→(y.In W)→Calls Tryd.prog 91 #[.agg #[.int .i64 x.op,.int .i64 x.typ,.int .i64 x.num,.string x.text,.int .i64 x.col,.slice x.kh.ao x.kids.length x.kh.cap],.agg #[.int .i64 y.op,.int .i64 y.typ,.int .i64 y.num,.string y.text,.int .i64 y.col,.slice y.kh.ao y.kids.length y.kh.cap]] W fun r w'=>r = .returned (.bool (eqb x.er y.er))∧Below W.heap.size W w')) :
  Calls Tryd.prog 109 #[.slice ha.ao a.length ha.cap,.slice hb.ao b.length hb.cap,.func (.func 91) #[] #[]] w fun r w'=>r = .returned (.bool (eqb (a.map Ex.er) (b.map Ex.er)))∧Below w.heap.size w w':=by
 have hna:=hra.len;have hnb:=hrb.len;by_cases hl:a.length=b.length
 ·have hl': (((a.length:Nat) :Int) != ((b.length:Nat) :Int)) =false:=by simp [hl]
  have HL:=ai hl;clear hl
  go_enter Tryd.func109,Tryd.ntmps109;go_wp2;clear hl';go_loopw [17] (fun i wr=>∃k:Nat,k≤a.length∧i = .int .i64 k∧(∀j (ha:j<a.length) (hb:j<b.length),j<k→a[j].er=b[j].er)∧Below w.heap.size w wr) (fun i _=>a.length - (intOf i).toNat)
  case atStart=>exact⟨0,Nat.zero_le _,rfl,fun j _ _ h=>absurd h (by omega),Below.refl _ _⟩
  case round=>
   obtain⟨k,hk,rfl,hno,hbw⟩:=hrel;have HN:=ai hno;have HB:=ai hbw;have hra':=hra.mono hbw;have hrb':=hrb.mono hbw;clear hno hbw;by_cases hlt:k<a.length
   ·have hltb:k<b.length:=by rw [←HL.o];exact hlt
    have hix:=hra'.ix hlt Tryd.underlying37 sz41;have hjx:=hrb'.ix hltb Tryd.underlying37 sz41
    skip
    have hbx:=hra'.blk hlt;have hby:=hrb'.blk hltb;obtain⟨c0,c1,c2,c3,c4,c5⟩:=ex_at hra' hlt;obtain⟨d0,d1,d2,d3,d4,d5⟩:=ex_at hrb' hltb;have HXA:=ai (IH.o a[k] (List.getElem_mem hlt) b[k]);have HIA:=ai (hia _ (List.getElem_mem hlt));have HIB:=ai (hib _ (List.getElem_mem hltb));obtain⟨xa,hxa⟩ : ∃x,x=a[k]:=⟨_,rfl⟩;obtain⟨xb,hxb⟩ : ∃x,x=b[k]:=⟨_,rfl⟩;rw [←hxa]at c0 c1 c2 c3 c4 c5;rw [←hxb]at d0 d1 d2 d3 d4 d5;rw [←hxa,←hxb]at HXA;rw [←hxa]at HIA;rw [←hxb]at HIB;have HXE:=ai hxa;have HYE:=ai hxb;clear hxa hxb;go_wp2_with (go_at_call 91;refine(HXA.o _ (HIA.o.mono (HB.o.trans ((belAA _ _).mono HB.o.size))) (HIB.o.mono (HB.o.trans ((belAA _ _).mono HB.o.size)))).mono ?_;rintro r w1 ⟨rfl,hb1⟩;have HB1:=ai hb1;clear hb1;cases hq:eqb xa.er xb.er)
    ·have HQ:=ai hq
     clear hq;go_ret
     refine⟨retb (eqb_no (map_ne_at hlt hltb ?_)).symm,HB.o.trans ((bel2 HB1.o).mono HB.o.size)⟩
     rw [←HXE.o,←HYE.o];exact eqb_false HQ.o
    ·have HQ:=ai hq
     clear hq;go_roundw
     case rel=>
      refine⟨k+1,by omega,by go_num,fun j hj hj2 h=> ?_,HB.o.trans ((bel2 HB1.o).mono HB.o.size)⟩
      by_cases e:j=k
      ·subst e;rw [←HXE.o,←HYE.o];exact eqb_true HQ.o
      ·exact HN.o j hj hj2 (by omega)
     case measure=>simp [intOf];omega
   ·go_wp2
    go_ret
    exact⟨retb (eqb_yes (map_eq_all HL.o (fun j h1 h2=>HN.o j h1 h2 (by omega)))).symm,HB.o⟩
 ·have hl': (((a.length:Nat) :Int) != ((b.length:Nat) :Int)) =true:=by simp;omega
  have HL:=ai hl;clear hl
  go_enter Tryd.func109,Tryd.ntmps109;go_wp2;go_ret
  exact⟨retb (eqb_no (map_ne_len HL.o)).symm,Below.refl _ _⟩
theorem esame_any {w0:World} {a:Ex} (h0:a.In w0) : ∀(b:Ex) (w:World),a.In w→b.In w→
  Calls Tryd.prog 91 #[.agg #[.int .i64 a.op,.int .i64 a.typ,.int .i64 a.num,.string a.text,.int .i64 a.col,.slice a.kh.ao a.kids.length a.kh.cap],.agg #[.int .i64 b.op,.int .i64 b.typ,.int .i64 b.num,.string b.text,.int .i64 b.col,.slice b.kh.ao b.kids.length b.kh.cap]] w fun r w'=>r = .returned (.bool (eqb a.er b.er))∧Below w.heap.size w w':=by
 induction h0 with
 | mk a _ _ _ ih=>
 intro b w hia hib;have IH:=ai ih;clear ih;by_cases h0:a.op=b.op
 rotate_left
 ·have g0: (a.op == b.op) =false:=by simpa using h0
  have HH:=ai h0;clear h0
  go_enter Tryd.func91,Tryd.ntmps91;go_wp2;go_ret
  exact⟨retb (eqb_no (fun e=>HH.o ((er_iff a b).1 e |>.1))).symm,belAA _ _⟩
 have g0: (a.op == b.op) =true:=by simpa using h0
 have H0:=ai h0;clear h0;by_cases h1:a.typ=b.typ
 rotate_left
 ·have g1: (a.typ == b.typ) =false:=by simpa using h1
  have HH:=ai h1;clear h1
  go_enter Tryd.func91,Tryd.ntmps91;go_wp2;go_ret
  exact⟨retb (eqb_no (fun e=>HH.o ((er_iff a b).1 e |>.2.1))).symm,belAA _ _⟩
 have g1: (a.typ == b.typ) =true:=by simpa using h1
 have H1:=ai h1;clear h1;by_cases h2:a.num=b.num
 rotate_left
 ·have g2: (a.num == b.num) =false:=by simpa using h2
  have HH:=ai h2;clear h2
  go_enter Tryd.func91,Tryd.ntmps91;go_wp2;go_ret
  exact⟨retb (eqb_no (fun e=>HH.o ((er_iff a b).1 e |>.2.2.1))).symm,belAA _ _⟩
 have g2: (a.num == b.num) =true:=by simpa using h2
 have H2:=ai h2;clear h2;by_cases h3:a.text.toList=b.text.toList
 rotate_left
 ·have g3: (a.text.toList == b.text.toList) =false:=by simpa using h3
  have HH:=ai h3;clear h3
  go_enter Tryd.func91,Tryd.ntmps91;go_wp2;go_ret
  exact⟨retb (eqb_no (fun e=>HH.o ((er_iff a b).1 e |>.2.2.2.1))).symm,belAA _ _⟩
 have g3: (a.text.toList == b.text.toList) =true:=by simpa using h3
 have H3:=ai h3;clear h3;by_cases h4:a.col=b.col
 rotate_left
 ·have g4: (a.col == b.col) =false:=by simpa using h4
  have HH:=ai h4;clear h4
  go_enter Tryd.func91,Tryd.ntmps91;go_wp2;go_ret
  exact⟨retb (eqb_no (fun e=>HH.o ((er_iff a b).1 e |>.2.2.2.2.1))).symm,belAA _ _⟩
 have g4: (a.col == b.col) =true:=by simpa using h4
 have H4:=ai h4;clear h4;have hra:=hia.row.mono (belAA (.cells #[.int .i64 a.op,.int .i64 a.typ,.int .i64 a.num,.string a.text,.int .i64 a.col,.slice a.kh.ao a.kids.length a.kh.cap] 45) (.cells #[.int .i64 b.op,.int .i64 b.typ,.int .i64 b.num,.string b.text,.int .i64 b.col,.slice b.kh.ao b.kids.length b.kh.cap] 45));have hrb:=hib.row.mono (belAA (.cells #[.int .i64 a.op,.int .i64 a.typ,.int .i64 a.num,.string a.text,.int .i64 a.col,.slice a.kh.ao a.kids.length a.kh.cap] 45) (.cells #[.int .i64 b.op,.int .i64 b.typ,.int .i64 b.num,.string b.text,.int .i64 b.col,.slice b.kh.ao b.kids.length b.kh.cap] 45));have HRA:=ai hra;have HRB:=ai hrb;have HKA:=ai (fun x (hx:x∈a.kids)=>(hia.kid x hx).mono (belAA (.cells #[.int .i64 a.op,.int .i64 a.typ,.int .i64 a.num,.string a.text,.int .i64 a.col,.slice a.kh.ao a.kids.length a.kh.cap] 45) (.cells #[.int .i64 b.op,.int .i64 b.typ,.int .i64 b.num,.string b.text,.int .i64 b.col,.slice b.kh.ao b.kids.length b.kh.cap] 45)))
 have HKB:=ai (fun x (hx:x∈b.kids)=>(hib.kid x hx).mono (belAA (.cells #[.int .i64 a.op,.int .i64 a.typ,.int .i64 a.num,.string a.text,.int .i64 a.col,.slice a.kh.ao a.kids.length a.kh.cap] 45) (.cells #[.int .i64 b.op,.int .i64 b.typ,.int .i64 b.num,.string b.text,.int .i64 b.col,.slice b.kh.ao b.kids.length b.kh.cap] 45)))
 clear hra hrb
 go_enter Tryd.func91,Tryd.ntmps91;go_wp2_with (go_at_call 109;refine(eqf_ex a.kh b.kh a.kids b.kids _ HRA.o HRB.o HKA.o HKB.o IH).mono ?_;rintro r w1 ⟨rfl,hb1⟩;have HB1:=ai hb1;clear hb1)
 go_ret
 refine⟨retb (eqb_iff ?_),bel2 HB1.o⟩
 rw [er_iff];exact⟨fun h=>⟨H0.o,H1.o,H2.o,H3.o,H4.o,h⟩,fun h=>h.2.2.2.2.2⟩
theorem resame_any {w0:World} {a:Ex} (h0:a.In w0) : ∀(b:Ex) (w:World),a.In w→b.In w→
  Calls Tryd.prog 112 #[.agg #[.int .i64 a.op,.int .i64 a.typ,.int .i64 a.num,.string a.text,.int .i64 a.col,.slice a.kh.ao a.kids.length a.kh.cap],.agg #[.int .i64 b.op,.int .i64 b.typ,.int .i64 b.num,.string b.text,.int .i64 b.col,.slice b.kh.ao b.kids.length b.kh.cap]] w fun r w'=>r = .returned (.bool (eqb a.er b.er))∧Below w.heap.size w w':=by
 induction h0 with
 | mk a _ _ _ ih=>
 intro b w hia hib;have IH:=ai ih;clear ih;have hna:=hia.row.len;have hnb:=hib.row.len;by_cases h0:a.op=b.op
 rotate_left
 ·have g0: (a.op != b.op) =true:=by simpa using h0
  have HH:=ai h0;clear h0
  go_enter Tryd.func112,Tryd.ntmps112;go_wp2;go_ret
  exact⟨retb (eqb_no (fun e=>HH.o ((er_iff a b).1 e |>.1))).symm,belAA _ _⟩
 have g0: (a.op != b.op) =false:=by simpa using h0
 have H0:=ai h0;clear h0;by_cases h1:a.typ=b.typ
 rotate_left
 ·have g1: (a.typ != b.typ) =true:=by simpa using h1
  have HH:=ai h1;clear h1
  go_enter Tryd.func112,Tryd.ntmps112;go_wp2;go_ret
  exact⟨retb (eqb_no (fun e=>HH.o ((er_iff a b).1 e |>.2.1))).symm,belAA _ _⟩
 have g1: (a.typ != b.typ) =false:=by simpa using h1
 have H1:=ai h1;clear h1;by_cases h2:a.num=b.num
 rotate_left
 ·have g2: (a.num != b.num) =true:=by simpa using h2
  have HH:=ai h2;clear h2
  go_enter Tryd.func112,Tryd.ntmps112;go_wp2;go_ret
  exact⟨retb (eqb_no (fun e=>HH.o ((er_iff a b).1 e |>.2.2.1))).symm,belAA _ _⟩
 have g2: (a.num != b.num) =false:=by simpa using h2
 have H2:=ai h2;clear h2;by_cases h3:a.text.toList=b.text.toList
 rotate_left
 ·have g3: (!(a.text.toList == b.text.toList)) =true:=by simpa using h3
  have HH:=ai h3;clear h3
  go_enter Tryd.func112,Tryd.ntmps112;go_wp2;go_ret
  exact⟨retb (eqb_no (fun e=>HH.o ((er_iff a b).1 e |>.2.2.2.1))).symm,belAA _ _⟩
 have g3: (!(a.text.toList == b.text.toList)) =false:=by simpa using h3
 have H3:=ai h3;clear h3;by_cases h4:a.col=b.col
 rotate_left
 ·have g4: (a.col != b.col) =true:=by simpa using h4
  have HH:=ai h4;clear h4
  go_enter Tryd.func112,Tryd.ntmps112;go_wp2;go_ret
  exact⟨retb (eqb_no (fun e=>HH.o ((er_iff a b).1 e |>.2.2.2.2.1))).symm,belAA _ _⟩
 have g4: (a.col != b.col) =false:=by simpa using h4
 have H4:=ai h4;clear h4;by_cases hl:a.kids.length=b.kids.length
 rotate_left
 ·have hl': (((a.kids.length:Nat) :Int) != ((b.kids.length:Nat) :Int)) =true:=by simp;omega
  have HL:=ai hl;clear hl
  go_enter Tryd.func112,Tryd.ntmps112;go_wp2;go_ret
  exact⟨retb (eqb_no (fun e=>map_ne_len HL.o ((er_iff a b).1 e |>.2.2.2.2.2))).symm,belAA _ _⟩
 have hl': (((a.kids.length:Nat) :Int) != ((b.kids.length:Nat) :Int)) =false:=by simp [hl]
 have HL:=ai hl;clear hl
 go_enter Tryd.func112,Tryd.ntmps112;go_wp2;clear g0 g1 g2 g3 g4 hl';go_loopw [5] (fun i wr=>∃k:Nat,k≤a.kids.length∧i = .int .i64 k∧(∀j (ha:j<a.kids.length) (hb:j<b.kids.length),j<k→a.kids[j].er=b.kids[j].er)∧Below (w.heap.size+2) ((w.alloc (.cells #[.int .i64 a.op,.int .i64 a.typ,.int .i64 a.num,.string a.text,.int .i64 a.col,.slice a.kh.ao a.kids.length a.kh.cap] 45)).alloc (.cells #[.int .i64 b.op,.int .i64 b.typ,.int .i64 b.num,.string b.text,.int .i64 b.col,.slice b.kh.ao b.kids.length b.kh.cap] 45)) wr) (fun i _=>a.kids.length - (intOf i).toNat)
 case atStart=>exact⟨0,Nat.zero_le _,rfl,fun j _ _ h=>absurd h (by omega),Below.refl _ _⟩
 case round=>
  obtain⟨k,hk,rfl,hno,hbw0⟩:=hrel;have HN:=ai hno;have HB0:=ai hbw0;have hbw:Below w.heap.size w wr:=(belAA _ _).trans (hbw0.mono (by omega))
  have HB:=ai hbw;have hia':=hia.mono hbw;have hib':=hib.mono hbw;have hxa:wr.cell? ⟨w.heap.size,5,none⟩ =some (.slice a.kh.ao a.kids.length a.kh.cap):=by rw [hbw0.cell (by simp)];simp [go_sem]
  have hxb:wr.cell? ⟨w.heap.size+1,5,none⟩ =some (.slice b.kh.ao b.kids.length b.kh.cap):=by rw [hbw0.cell (by simp)];simp [go_sem]
  have hszl:w.heap.size+2≤wr.heap.size:=by have:=hbw0.size;simpa using this
  clear hno hbw hbw0;by_cases hlt:k<a.kids.length
  ·have hltb:k<b.kids.length:=by rw [←HL.o];exact hlt
   have hix:=hia'.row.ix hlt Tryd.underlying37 sz41;have hjx:=hib'.row.ix hltb Tryd.underlying37 sz41;obtain⟨c0,c1,c2,c3,c4,c5⟩:=ex_at hia'.row hlt;obtain⟨d0,d1,d2,d3,d4,d5⟩:=ex_at hib'.row hltb;have HXA:=ai (IH.o a.kids[k] (List.getElem_mem hlt) b.kids[k]);have HIA:=ai (hia'.kid _ (List.getElem_mem hlt));have HIB:=ai (hib'.kid _ (List.getElem_mem hltb));obtain⟨xa,hxa'⟩ : ∃x,x=a.kids[k]:=⟨_,rfl⟩;obtain⟨xb,hxb'⟩ : ∃x,x=b.kids[k]:=⟨_,rfl⟩;rw [←hxa']at c0 c1 c2 c3 c4 c5 HIA;rw [←hxb']at d0 d1 d2 d3 d4 d5 HIB;rw [←hxa',←hxb']at HXA;have HXE:=ai hxa';have HYE:=ai hxb';clear hxa' hxb';go_wp2;refine region_tail 10 mixed (by kernel_rfl) ?_
   simp only [List.take_succ_cons,List.take_zero,List.drop_succ_cons,List.drop_zero]
   repeat still_step
   refine wpStill_nil ?_
   go_wp2_with (go_at_call 112;refine(HXA.o _ (HIA.o.mono ((Below.refl _ _).drew)) (HIB.o.mono ((Below.refl _ _).drew))).mono ?_;rintro r w1 ⟨rfl,hb1⟩;have HB1:=ai (bel_drew hb1);clear hb1;cases hq:eqb xa.er xb.er)
   ·have HQ:=ai hq
    clear hq;go_ret
    refine⟨retb (eqb_no (fun e=>map_ne_at hlt hltb ?_ ((er_iff a b).1 e |>.2.2.2.2.2))).symm,HB.o.trans (HB1.o.mono HB.o.size)⟩
    rw [←HXE.o,←HYE.o];exact eqb_false HQ.o
   ·have HQ:=ai hq
    clear hq;go_roundw
    case rel=>
     refine⟨k+1,by omega,by go_num,fun j hj hj2 h=> ?_,HB0.o.trans (HB1.o.mono hszl)⟩
     by_cases e:j=k
     ·subst e;rw [←HXE.o,←HYE.o];exact eqb_true HQ.o
     ·exact HN.o j hj hj2 (by omega)
    case measure=>simp [intOf];omega
  ·go_wp2
   go_ret
   refine⟨retb (eqb_yes ((er_iff a b).2 ⟨H0.o,H1.o,H2.o,H3.o,H4.o,map_eq_all HL.o (fun j h1 h2=>HN.o j h1 h2 (by omega))⟩)).symm,HB.o⟩
end Go.Proofs.YtogalchclmmfgaaDoor
namespace Go.Proofs.YtogalchclmmfgaaDoor
open Go.RowKit
theorem sz69: (Tryd.prog.info? 79).map (·.size) =some 1:=by kernel_rfl
theorem sz74: (Tryd.prog.info? 63).map (·.size) =some 7:=by kernel_rfl
theorem sz46: (Tryd.prog.info? 57).map (·.size) =some 15:=by kernel_rfl
def Agg.In (w:World) (a:Agg) :Prop:=int64 a.fn∧a.arg.In w
theorem Agg.In.mono {w w':World} {a:Agg} (h:a.In w) (hb:Below w.heap.size w w') :a.In w':=⟨h.1,h.2.mono hb⟩
end Go.Proofs.YtogalchclmmfgaaDoor

/-
  DERIVED: THE SHELF's CONTRACTS AT THIS DUMP, IN PLAIN WORDS (tools/lay-plain.mjs out of 'TryzShelf.lean', which tools/lay-shelf.mjs wrote): THE SAME DECLARATIONS UNDER THE SAME NAMES: 'import', 'namespace', 'open', 'def', 'theorem' AND NOTHING ELSE: no command of the shelf's: FOR A HAND-IN. Each laying: the table of numbers ('.._ren') and one theorem, a field a fact of the dump's own or the kernel's comparison; each contract: ONE APPLICATION.
-/
import Derived.Test.YtiijaaohphokcaaGreatDoorProg
import Derived.Test.YtiijaaohphokcaaGreatDoorG01
import Derived.Test.YtiijaaohphokcaaGreatDoorDataK
import Derived.Shelf.Strings.Search1
import Derived.Shelf.Strings.Search2
import Derived.Shelf.Strings.Search3
import Derived.Shelf.LaysM
import Derived.Shelf.Strings.Shaped
import Derived.Shelf.Slices.Turned
import Derived.Ground.Names2Prog
import Derived.Shelf.Slices.SearchI
import Derived.Ground.SlgnProg
import Derived.Shelf.SlicesG.SearchI
import Derived.Shelf.SlicesE.Clone
import Derived.Deep.AppendLies
import Derived.Laws.OwnMore
set_option maxRecDepth 100000
set_option maxHeartbeats 16000000
namespace Go.Proofs
open Go.Shelf
def Tryz.laysM144_ren:Go.Shelf.Ren:=⟨fun|144=>147|143=>177|219=>192|217=>201|225=>202|224=>203|267=>204|266=>209|314=>210|n=>n,fun|9=>9|4=>4|3=>3|5=>5|46=>148|146=>241|51=>185|n=>n,fun|1=>0|n=>n⟩
theorem Tryz.laysM144:Go.Proofs.LaysM.n144 Tryz.prog Tryz.laysM144_ren:= {
 mixed:=by kernel_rfl
 f143:=Tryz.func177.trans (congrArg some (by kernel_rfl))
 f144:=Tryz.func147.trans (congrArg some (by kernel_rfl))
 f217:=Tryz.func201.trans (congrArg some (by kernel_rfl))
 f219:=Tryz.func192.trans (congrArg some (by kernel_rfl))
 f224:=Tryz.func203.trans (congrArg some (by kernel_rfl))
 f225:=Tryz.func202.trans (congrArg some (by kernel_rfl))
 f266:=Tryz.func209.trans (congrArg some (by kernel_rfl))
 f267:=Tryz.func204.trans (congrArg some (by kernel_rfl))
 f314:=Tryz.func210.trans (congrArg some (by kernel_rfl))
 t3:=Tryz.underlying3
 a3:=Tryz.isAgg3
 z3:=Tryz.sizeOf3
 v3:=Tryz.zeroValue3
 t4:=Tryz.underlying4
 a4:=Tryz.isAgg4
 z4:=Tryz.sizeOf4
 v4:=Tryz.zeroValue4
 t5:=Tryz.underlying5
 a5:=Tryz.isAgg5
 z5:=Tryz.sizeOf5
 v5:=Tryz.zeroValue5
 t9:=Tryz.underlying9
 a9:=Tryz.isAgg9
 z9:=Tryz.sizeOf9
 v9:=Tryz.zeroValue9
 t46:=Tryz.underlying148
 a46:=Tryz.isAgg148
 z46:=Tryz.sizeOf148
 v46:=Tryz.zeroValue148
 t51:=Tryz.underlying185
 a51:=Tryz.isAgg185
 z51:=Tryz.sizeOf185
 v51:=Tryz.zeroValue185
 t146:=Tryz.underlying241
 a146:=Tryz.isAgg241
 z146:=Tryz.sizeOf241
 v146:=Tryz.zeroValue241
 g1:=by kernel_rfl
 i3:=by kernel_rfl
 i4:=by kernel_rfl
 i5:=by kernel_rfl
 i9:=by kernel_rfl
 i46:=by kernel_rfl
 i51:=by kernel_rfl
 i146:=by kernel_rfl
 m1:=by kernel_rfl
 s1_3:=fun w h=>Go.Proofs.cell_of_shapedOpen_int (zero:=#[.int .i64 0]) (t:=3) h (of_decide_eq_true (by kernel_rfl)) (by kernel_rfl) rfl (by kernel_rfl) (by kernel_rfl) Tryz.underlying3 }
open Go.RowKit Go.Lib in
theorem Tryz.strings_Contains_shaped (s sub:ByteArray) (w:World) (h:w.ShapedOpen Tryz.prog) (hs:s.size<4294967281) :
  Calls Tryz.prog 147 #[.string s,.string sub] w fun e w'=>e = .returned (.bool (Lib.contains s.data.toList sub.data.toList))∧w'=w:=Any.strings_Contains_shaped Tryz.laysM144 s sub w h hs
def Tryz.lays107_ren:Go.Shelf.Ren:=⟨fun|107=>111|108=>160|n=>n,fun|28=>22|3=>3|4=>4|0=>0|n=>n,fun|n=>n⟩
theorem Tryz.lays107:Go.Proofs.Lays.n107 Tryz.prog Tryz.lays107_ren:= {
 mixed:=by kernel_rfl
 f107:=Tryz.func111.trans (congrArg some (by kernel_rfl))
 f108:=Tryz.func160.trans (congrArg some (by kernel_rfl))
 t0:=Tryz.underlying0
 a0:=Tryz.isAgg0
 z0:=Tryz.sizeOf0
 v0:=Tryz.zeroValue0
 t3:=Tryz.underlying3
 a3:=Tryz.isAgg3
 z3:=Tryz.sizeOf3
 v3:=Tryz.zeroValue3
 t4:=Tryz.underlying4
 a4:=Tryz.isAgg4
 z4:=Tryz.sizeOf4
 v4:=Tryz.zeroValue4
 t28:=Tryz.underlying22
 a28:=Tryz.isAgg22
 z28:=Tryz.sizeOf22
 v28:=Tryz.zeroValue22 }
open Go.Lib in
theorem Tryz.slices_Contains_int (b off n c:Nat) (zs:List Int) (x:Int) (w:World) (hz:n≤zs.length) (hbig:n≤9223372036854775807) (hc: ∀j,j<zs.length→w.cell? ⟨b,off+j,none⟩ =some (.int .i64 (zs.getD j 0))) :
  Calls Tryz.prog 111 #[.slice (some ⟨b,off,none⟩) n c,.int .i64 x] w fun e w'=>e = .returned (.bool ((zs.take n).contains x))∧w'=w:=Any.slices_Contains_int Tryz.lays107 b off n c zs x w hz hbig hc
def Tryz.laysSlE041_f183_ren:Go.Shelf.Ren:=⟨fun|41=>183|n=>n,fun|22=>74|23=>22|4=>4|n=>n,fun|n=>n⟩
theorem Tryz.laysSlE041_f183:Go.Proofs.SlLaysE0.n41 Tryz.prog Tryz.laysSlE041_f183_ren:= {
 mixed:=by kernel_rfl
 f41:=⟨Tryz.f183.name,by decide,Tryz.func183.trans (congrArg some (by kernel_rfl))⟩
 t4:=Tryz.underlying4
 a4:=Tryz.isAgg4
 z4:=Tryz.sizeOf4
 v4:=Tryz.zeroValue4
 t22:=Tryz.underlying74
 a22:=Tryz.isAgg74
 z22:=Tryz.sizeOf74
 v22:=Tryz.zeroValue74 }
open Go.RowKit Go.Lib in
theorem Tryz.slices_Clone_nil (n c:Nat) (w:World) :
  Calls Tryz.prog 183 #[.slice none n c] w fun e w'=>e = .returned (.slice none 0 0)∧w'=w:=AnyE.slices_Clone_nil Tryz.laysSlE041_f183 n c w
end Go.Proofs
/- schema.key, ref03.listed: the columns of a key. -/
namespace Go.Proofs.YtiijaaohphokcaaGreatDoor
open Go.RowKit
def KeyOk (n:Nat) (l:List Int) :Prop:=0<l.length∧∀i (h:i<l.length),0≤l[i]∧l[i] <n∧∀j (hj:j<l.length),j<i→l[j]≠l[i]
open Classical in
noncomputable def keyB (n:Nat) (l:List Int) :Bool:=decide (KeyOk n l)
open Classical in
theorem keyB_yes {n:Nat} {l:List Int} (h:KeyOk n l) :keyB n l=true:=by unfold keyB;exact decide_eq_true h
open Classical in
theorem keyB_no {n:Nat} {l:List Int} (h: ¬KeyOk n l) :keyB n l=false:=by unfold keyB;exact decide_eq_false h
noncomputable def keyE (n:Nat) (l:List Int) :Int:=if keyB n l then 0 else 6
theorem keyE_yes {n:Nat} {l:List Int} (h:KeyOk n l) :keyE n l=0:=by unfold keyE;rw [keyB_yes h];rfl
theorem keyE_no {n:Nat} {l:List Int} (h: ¬KeyOk n l) :keyE n l=6:=by unfold keyE;rw [keyB_no h];rfl
theorem take_has {l:List Int} {k:Nat} {x:Int} : (l.take k).contains x=true↔∃j,∃h:j<l.length,j<k∧l[j] =x:=by
 rw [List.contains_iff_exists_mem_beq]
 constructor
 ·rintro ⟨y,hy,hxy⟩
  obtain⟨j,hj,rfl⟩:=List.getElem_of_mem hy;rw [List.length_take]at hj;exact⟨j,by omega,by omega,by rw [List.getElem_take]at hxy;exact(eq_of_beq hxy).symm⟩
 ·rintro ⟨j,hj,hjk,rfl⟩
  refine⟨l[j],?_,by simp⟩
  have: (l.take k)[j]'(by rw [List.length_take];omega) =l[j]:=List.getElem_take
  rw [←this];exact List.getElem_mem _
theorem key_some (x:Tab) (b o cap:Nat) (xs:List Int) (w:World) (hl:IL.In w ⟨⟨some ⟨b,o,none⟩,cap⟩,xs⟩) (hp:0<xs.length) :
  Calls Tryz.prog 180 #[.agg #[.string x.name,.slice x.ch.ao x.cols.length x.ch.cap,.slice x.prim.h.ao x.prim.l.length x.prim.h.cap,.slice x.uh.ao x.uniqs.length x.uh.cap,.slice x.fh.ao x.fors.length x.fh.cap,.slice x.kh.ao x.checks.length x.kh.cap],.slice (some ⟨b,o,none⟩) xs.length cap] w
   fun e w'=>e = .returned (.int .i64 (keyE x.cols.length xs))∧Below w.heap.size w w':=by
 have hn:xs.length≤9223372036854775807:=hl.1.len;have hcap:xs.length≤cap:=hl.1.1;have HL:=ai (hl.mono (belA (.cells #[.string x.name,.slice x.ch.ao x.cols.length x.ch.cap,.slice x.prim.h.ao x.prim.l.length x.prim.h.cap,.slice x.uh.ao x.uniqs.length x.uh.cap,.slice x.fh.ao x.fors.length x.fh.cap,.slice x.kh.ao x.checks.length x.kh.cap] 78)));have HC:=ai (show∀(k:Nat) (h:k<xs.length),(w.alloc (.cells #[.string x.name,.slice x.ch.ao x.cols.length x.ch.cap,.slice x.prim.h.ao x.prim.l.length x.prim.h.cap,.slice x.uh.ao x.uniqs.length x.uh.cap,.slice x.fh.ao x.fors.length x.fh.cap,.slice x.kh.ao x.checks.length x.kh.cap] 78)).cell? ⟨b,o+k,none⟩ =some (.int .i64 xs[k])from fun k h=>int_at HL.o.1 h)
 have HIX:=ai (show∀(k:Nat) (h:k<xs.length),∀U,(Instr.indexAt 22 (.slice (some ⟨b,o,none⟩) xs.length cap) (.int .i64 (k:Int))).run Tryz.prog U = .ok (.pointer (some ⟨b,o+k,none⟩)) U from fun k h=>IL.ix HL.o h)
 have hbk:b<w.heap.size:=hl.1.blk hp;clear hl
 go_enter Tryz.func180,Tryz.ntmps180;go_wp2;go_loopw [9] (fun i wr=>∃k:Nat,k≤xs.length∧i = .int .i64 k∧Hid (∀i (h:i<xs.length),i<k→0≤xs[i]∧xs[i] <x.cols.length∧∀j (hj:j<xs.length),j<i→xs[j]≠xs[i])∧wr=w.alloc (.cells #[.string x.name,.slice x.ch.ao x.cols.length x.ch.cap,.slice x.prim.h.ao x.prim.l.length x.prim.h.cap,.slice x.uh.ao x.uniqs.length x.uh.cap,.slice x.fh.ao x.fors.length x.fh.cap,.slice x.kh.ao x.checks.length x.kh.cap] 78)) (fun i _=>xs.length - (intOf i).toNat)
 case atStart=>exact⟨0,Nat.zero_le _,rfl,fun j _ h=>absurd h (by omega),rfl⟩
 case round=>
  obtain⟨k,hk,rfl,HN,rfl⟩:=hrel;by_cases hlt:k<xs.length
  ·have hix:=HIX.o k hlt
   have c0:=HC.o k hlt;by_cases h1:xs[k] <0
   ·have HR:=ai (keyE_no (n:=x.cols.length) (l:=xs) (fun h=>by have:=(h.2 k hlt).1;omega))
    go_wp2;go_ret
    exact⟨ret1 HR.o.symm,belA _⟩
   by_cases h2: (x.cols.length:Int)≤xs[k]
   ·have HR:=ai (keyE_no (n:=x.cols.length) (l:=xs) (fun h=>by have:=(h.2 k hlt).2.1;omega))
    go_wp2;go_ret
    exact⟨ret1 HR.o.symm,belA _⟩
   have HCT:=ai (Tryz.slices_Contains_int b o k cap xs xs[k] (w.alloc (.cells #[.string x.name,.slice x.ch.ao x.cols.length x.ch.cap,.slice x.prim.h.ao x.prim.l.length x.prim.h.cap,.slice x.uh.ao x.uniqs.length x.uh.cap,.slice x.fh.ao x.fors.length x.fh.cap,.slice x.kh.ao x.checks.length x.kh.cap] 78)) (by omega) (by omega) (fun j hj=>by rw [show xs.getD j 0=xs[j] by simp [List.getD,hj]];exact HC.o j hj))
   obtain⟨b',hb⟩ : ∃b,(xs.take k).contains xs[k] =b:=⟨_,rfl⟩;have HB:=ai hb;clear hb
   cases b'
   ·have HNK:=ai (show 0≤xs[k]∧xs[k] <x.cols.length∧∀j (hj:j<xs.length),j<k→xs[j]≠xs[k]from⟨by omega,by omega,fun j hj hjk he=>by
     have:=take_has.2 ⟨j,hj,hjk,he⟩;rw [HB.o]at this
     cases this⟩)
    go_wp2_with (go_at_call 111;refine HCT.o.mono ?_;rintro e w1 ⟨rfl,rfl⟩;rw [HB.o])
    go_roundw
    case rel=>
     refine⟨k+1,by omega,by go_num,fun i hi h=> ?_,trivial⟩
     by_cases e:i=k
     ·subst e;exact HNK.o
     ·exact HN.o i hi (by omega)
    case measure=>simp [intOf];omega
   ·have HR:=ai (keyE_no (n:=x.cols.length) (l:=xs) (fun h=>by
     obtain⟨j,hj,hjk,he⟩:=take_has.1 HB.o;exact(h.2 k hlt).2.2 j hj hjk he))
    go_wp2_with (go_at_call 111;refine HCT.o.mono ?_;rintro e w1 ⟨rfl,rfl⟩;rw [HB.o])
    go_ret
    exact⟨ret1 HR.o.symm,belA _⟩
  ·have HR:=ai (keyE_yes (n:=x.cols.length) (l:=xs) ⟨by omega,fun i hi=>HN.o i hi (by omega)⟩)
   have h0': ((xs.length:Int) == 0) =false:=by simp;intro h;rw [h]at hp;simp at hp
   go_wp2;go_ret
   exact⟨ret1 HR.o.symm,belA _⟩
theorem key_any (x:Tab) (l:IL) (w:World) (hl:l.In w) :
  Calls Tryz.prog 180 #[.agg #[.string x.name,.slice x.ch.ao x.cols.length x.ch.cap,.slice x.prim.h.ao x.prim.l.length x.prim.h.cap,.slice x.uh.ao x.uniqs.length x.uh.cap,.slice x.fh.ao x.fors.length x.fh.cap,.slice x.kh.ao x.checks.length x.kh.cap],.slice l.h.ao l.l.length l.h.cap] w
   fun e w'=>e = .returned (.int .i64 (keyE x.cols.length l.l))∧Below w.heap.size w w':=by
 by_cases hp:0<l.l.length
 ·obtain⟨b,o,cap,xs,rfl⟩ : ∃b o cap xs,l= ⟨⟨some ⟨b,o,none⟩,cap⟩,xs⟩:=by
   have:=(hl.1.2.2.1 hp).1;obtain⟨⟨ao,cap⟩,xs⟩:=l;exact⟨_,_,cap,xs,by dsimp only at this;rw [this]⟩
  exact key_some x b o cap xs w hl hp
 ·have HR:=ai (keyE_no (n:=x.cols.length) (l:=l.l) (fun h=>by have:=h.1;omega))
  have h0:l.l.length=0:=by omega
  go_enter Tryz.func180,Tryz.ntmps180;go_wp2;go_loopw [9] (fun i wr=>i = .int .i64 0∧Below w.heap.size w wr) (fun i _=>0)
  case atStart=>exact⟨rfl,belA _⟩
  case round=>
   obtain⟨rfl,hb⟩:=hrel;go_wp2;go_ret
   exact⟨ret1 HR.o.symm,hb⟩
theorem listed_any (x:Tab) (l:IL) (w:World) (hl:l.In w) :
  Calls Tryz.prog 163 #[.agg #[.string x.name,.slice x.ch.ao x.cols.length x.ch.cap,.slice x.prim.h.ao x.prim.l.length x.prim.h.cap,.slice x.uh.ao x.uniqs.length x.uh.cap,.slice x.fh.ao x.fors.length x.fh.cap,.slice x.kh.ao x.checks.length x.kh.cap],.slice l.h.ao l.l.length l.h.cap] w
   fun e w'=>e = .returned (.bool (keyB x.cols.length l.l))∧Below w.heap.size w w':=by
 have hn:=hl.1.len;have HL:=ai hl;clear hl
 go_enter Tryz.func163,Tryz.ntmps163;go_wp2;go_loopw [5] (fun i wr=>∃k:Nat,k≤l.l.length∧i = .int .i64 k∧Hid (∀i (h:i<l.l.length),i<k→0≤l.l[i]∧l.l[i] <x.cols.length∧∀j (hj:j<l.l.length),j<i→l.l[j]≠l.l[i])∧Hid (Below (w.alloc (.cells #[.string x.name,.slice x.ch.ao x.cols.length x.ch.cap,.slice x.prim.h.ao x.prim.l.length x.prim.h.cap,.slice x.uh.ao x.uniqs.length x.uh.cap,.slice x.fh.ao x.fors.length x.fh.cap,.slice x.kh.ao x.checks.length x.kh.cap] 78)).heap.size (w.alloc (.cells #[.string x.name,.slice x.ch.ao x.cols.length x.ch.cap,.slice x.prim.h.ao x.prim.l.length x.prim.h.cap,.slice x.uh.ao x.uniqs.length x.uh.cap,.slice x.fh.ao x.fors.length x.fh.cap,.slice x.kh.ao x.checks.length x.kh.cap] 78)) wr)) (fun i _=>l.l.length - (intOf i).toNat)
 case atStart=>exact⟨0,Nat.zero_le _,rfl,fun j _ h=>absurd h (by omega),Below.refl _ _⟩
 case round=>
  obtain⟨k,hk,rfl,HN,HBW⟩:=hrel;have HB:=ai (bT (belA (w:=w) (.cells #[.string x.name,.slice x.ch.ao x.cols.length x.ch.cap,.slice x.prim.h.ao x.prim.l.length x.prim.h.cap,.slice x.uh.ao x.uniqs.length x.uh.cap,.slice x.fh.ao x.fors.length x.fh.cap,.slice x.kh.ao x.checks.length x.kh.cap] 78)) HBW.o)
  have x1:=box_cell HBW.o (j:=1) rfl
  have HLR:=ai (HL.o.mono HB.o);by_cases hlt:k<l.l.length
  ·have hix:=IL.ix HLR.o hlt
   have c0:=int_at HLR.o.1 hlt;have hbk:=HLR.o.1.blk hlt;by_cases h1:l.l[k] <0
   ·have HR:=ai (keyB_no (n:=x.cols.length) (l:=l.l) (fun h=>by have:=(h.2 k hlt).1;omega))
    go_wp2
    go_quiet (fail)
    go_wp2;go_ret
    exact⟨retb HR.o.symm,below_drewN HB.o _⟩
   by_cases h2: (x.cols.length:Int)≤l.l[k]
   ·have HR:=ai (keyB_no (n:=x.cols.length) (l:=l.l) (fun h=>by have:=(h.2 k hlt).2.1;omega))
    go_wp2
    go_quiet (fail)
    go_wp2;go_ret
    exact⟨retb HR.o.symm,below_drewN HB.o _⟩
   go_wp2
   go_quiet (fail)
   go_wp2;go_loopw [6] (fun i wz=>∃j:Nat,j≤k∧i = .int .i64 j∧Hid (∀i (h:i<l.l.length),i<j→l.l[i]≠l.l[k])∧Hid (Below wr.heap.size wr wz)) (fun i _=>k - (intOf i).toNat)
   case atStart=>exact⟨0,Nat.zero_le _,rfl,fun j _ h=>absurd h (by omega),below_drewN (Below.refl _ _) _⟩
   case round=>
    obtain⟨j,hj,rfl,HM,HBZ⟩:=hrel;have HLZ:=ai (HLR.o.mono HBZ.o);clear c0 hbk;have d0:=int_at HLZ.o.1 hlt;have hbk:=HLZ.o.1.blk hlt;by_cases hjk:j<k
    ·have hjk': (j:Int) < (k:Int):=by omega
     have hjl:j<l.l.length:=by omega
     have hixj:=IL.ix HLZ.o hjl;have dj:=int_at HLZ.o.1 hjl;by_cases he:l.l[j] =l.l[k]
     ·have HR:=ai (keyB_no (n:=x.cols.length) (l:=l.l) (fun h=>(h.2 k hlt).2.2 j hjl hjk he))
      have hb: (l.l[j] == l.l[k]) =true:=by simpa using he
      clear he;go_wp2
      go_quiet (fail)
      go_wp2;go_ret
      exact⟨retb HR.o.symm,below_drewN (bT HB.o HBZ.o) _⟩
     ·have hb: (l.l[j] == l.l[k]) =false:=by simpa using he
      have HE:=ai he;clear he;go_wp2
      go_quiet (fail)
      go_wp2;go_roundw
      case rel=>
       refine⟨j+1,by omega,by go_num,fun i hi h=> ?_,below_drewN HBZ.o _⟩
       by_cases e:i=j
       ·subst e;exact HE.o
       ·exact HM.o i hi (by omega)
      case measure=>simp [intOf];omega
    ·obtain rfl:j=k:=by omega
     have hjk': ¬(j:Int) < (j:Int):=by omega
     have HNK:=ai (show 0≤l.l[j]∧l.l[j] <x.cols.length∧∀i (hi:i<l.l.length),i<j→l.l[i]≠l.l[j]from⟨by omega,by omega,fun i hi h=>HM.o i hi h⟩)
     go_wp2;go_roundw
     case rel=>
      refine⟨j+1,by omega,by go_num,fun i hi h=> ?_,bT HBW.o HBZ.o⟩
      by_cases e:i=j
      ·subst e;exact HNK.o
      ·exact HN.o i hi (by omega)
     case measure=>simp [intOf];omega
  ·by_cases h0:0<l.l.length
   ·have HR:=ai (keyB_yes (n:=x.cols.length) (l:=l.l) ⟨h0,fun i hi=>HN.o i hi (by omega)⟩)
    have h0': (0:Int) < (l.l.length:Int):=by omega
    go_wp2;go_ret
    exact⟨by rw [HR.o];simp,HB.o⟩
   ·have HR:=ai (keyB_no (n:=x.cols.length) (l:=l.l) (fun h=>h0 h.1))
    have h0': ¬(0:Int) < (l.l.length:Int):=by omega
    go_wp2;go_ret
    exact⟨by rw [HR.o];simp,HB.o⟩
end Go.Proofs.YtiijaaohphokcaaGreatDoor
/- A block that is just these cells. -/
namespace Go.Proofs.YtiijaaohphokcaaGreatDoor
open Go.RowKit
def Box (w:World) (g:Nat) (cs:Array Value) (T:TypeId) :Prop:=w.heap[g]? = some (.cells cs T (0,0))
theorem Box.new (w:World) (cs:Array Value) (T:TypeId) :Box (w.alloc (.cells cs T)) w.heap.size cs T:=heap_alloc_new w _
theorem Box.lt {w:World} {g:Nat} {cs:Array Value} {T:TypeId} (h:Box w g cs T) :g<w.heap.size:=(Array.getElem?_eq_some_iff.1 h).1
theorem Box.cell {w:World} {g:Nat} {cs:Array Value} {T:TypeId} (h:Box w g cs T) {j:Nat} {v:Value} (hv:cs[j]? = some v) :w.cell? ⟨g,j,none⟩ =some v:=by
 rw [cell_of_row w g j cs T (0,0) h];exact hv
theorem Box.fr {w:World} {g:Nat} {cs:Array Value} {T:TypeId} (h:Box w g cs T) (j:Nat) :w.frozen? ⟨g,j,none⟩ =false:=by
 unfold Box at h
 simp [World.frozen?,h]
theorem Box.below {w w':World} {g:Nat} {cs:Array Value} {T:TypeId} (h:Box w g cs T) (hb:Below w.heap.size w w') :Box w' g cs T:=(hb.block g h.lt).trans h
theorem Box.grown {w w':World} {g:Nat} {cs:Array Value} {T:TypeId} {row:Option Nat} (h:Box w g cs T) (hb:w.grownBy w' row) (hne:some g≠row) :Box w' g cs T:=(hb.block g h.lt hne).trans h
theorem gb_set (w:World) (g j:Nat) (u:Value) :w.grownBy (w.setCell ⟨g,j,none⟩ u) (some g):=⟨rfl,rfl,rfl,by simp [World.setCell],fun i _ hi=>Below.heap_setCell _ _ _ _ (fun e=>hi (by rw [e]))⟩
theorem gb_then {a b c:World} {r:Option Nat} {g:Nat} (h:a.grownBy b r) (k:b.grownBy c (some g)) (hg:a.heap.size≤g) :a.grownBy c r:=h.andThen k (fun j e=>.inl (by cases e;exact hg))
theorem only_below {a w:World} (h:Below a.heap.size a w) (row:Option Nat) :a.grownBy w row:=⟨h.os,h.tape,h.output,h.size,fun i hi _=>h.block i hi⟩
theorem Box.set {w:World} {g:Nat} {cs:Array Value} {T:TypeId} (h:Box w g cs T) (j:Nat) (v:Value) :Box (w.setCell ⟨g,j,none⟩ v) g (cs.setIfInBounds j v) T:=heap_setCell_same w g j cs T v h
theorem Box.ne {z:World} {g g':Nat} {cs cs':Array Value} {T T':TypeId} (h:Box z g cs T) (h':Box z g' cs' T') (hne:T≠T') :g≠g':=by
 rintro rfl
 unfold Box at h h'
 rw [h]at h';injection h' with h';injection h' with _ h2;exact hne h2
theorem box2 {w w1:World} {c d:Array Value} {T U:TypeId} (hb:Below ((w.alloc (.cells c T)).alloc (.cells d U)).heap.size ((w.alloc (.cells c T)).alloc (.cells d U)) w1) :Box w1 (w.heap.size+1) d U:=by
 have:=(Box.new (w.alloc (.cells c T)) d U).below hb
 simpa only [World.size_alloc]using this
theorem box1 {w w1:World} {c d:Array Value} {T U:TypeId} (hb:Below ((w.alloc (.cells c T)).alloc (.cells d U)).heap.size ((w.alloc (.cells c T)).alloc (.cells d U)) w1) :Box w1 w.heap.size c T:=
 ((Box.new w c T).below (belA _)).below hb
theorem set4 (w:World) (g:Nat) (a b c d:Value) :w.grownBy ((((w.setCell ⟨g,0,none⟩ a).setCell ⟨g,1,none⟩ b).setCell ⟨g,2,none⟩ c).setCell ⟨g,3,none⟩ d) (some g):=
 ((gb_set _ _ _ _).trans (gb_set _ _ _ _)).trans (gb_set _ _ _ _) |>.trans (gb_set _ _ _ _)
end Go.Proofs.YtiijaaohphokcaaGreatDoor

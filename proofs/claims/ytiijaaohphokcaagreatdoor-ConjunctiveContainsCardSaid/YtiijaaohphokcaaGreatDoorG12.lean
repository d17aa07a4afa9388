/- schema.Name and ref03.Name: which strings are names. -/
import Derived.Test.YtiijaaohphokcaaGreatDoorG11
import Derived.Test.YtiijaaohphokcaaGreatDoorG01
import Derived.Test.YtiijaaohphokcaaGreatDoorG02
set_option maxRecDepth 100000
set_option maxHeartbeats 16000000
namespace Go.Proofs.YtiijaaohphokcaaGreatDoor
open Go.RowKit
theorem sz9: (Tryz.prog.info? 9).map (·.size) =some 1:=by kernel_rfl
def lett (c:Int) :Bool:=decide (97≤c∧c≤122)
def vch (c:Int) :Bool:=lett c || decide (48≤c∧c≤57) || decide (c=95)
abbrev scells (b:ByteArray) :List Value:= [.string b]
def resWords:List ByteArray:= [⟨#[115,101,108,101,99,116]⟩,
 ⟨#[100,105,115,116,105,110,99,116]⟩,
 ⟨#[97,108,108]⟩,
 ⟨#[102,114,111,109]⟩,
 ⟨#[119,104,101,114,101]⟩,
 ⟨#[103,114,111,117,112]⟩,
 ⟨#[98,121]⟩,
 ⟨#[104,97,118,105,110,103]⟩,
 ⟨#[97,115]⟩,
 ⟨#[111,110]⟩,
 ⟨#[117,110,105,111,110]⟩,
 ⟨#[101,120,99,101,112,116]⟩,
 ⟨#[105,110,116,101,114,115,101,99,116]⟩,
 ⟨#[106,111,105,110]⟩,
 ⟨#[105,110,110,101,114]⟩,
 ⟨#[108,101,102,116]⟩,
 ⟨#[114,105,103,104,116]⟩,
 ⟨#[102,117,108,108]⟩,
 ⟨#[99,114,111,115,115]⟩,
 ⟨#[115,101,109,105]⟩,
 ⟨#[97,110,116,105]⟩,
 ⟨#[97,110,100]⟩,
 ⟨#[111,114]⟩,
 ⟨#[110,111,116]⟩,
 ⟨#[105,115]⟩,
 ⟨#[110,117,108,108]⟩,
 ⟨#[116,114,117,101]⟩,
 ⟨#[102,97,108,115,101]⟩,
 ⟨#[105,110]⟩,
 ⟨#[99,97,115,101]⟩,
 ⟨#[119,104,101,110]⟩,
 ⟨#[116,104,101,110]⟩,
 ⟨#[101,108,115,101]⟩,
 ⟨#[101,110,100]⟩,
 ⟨#[118,97,108,117,101,115]⟩,
 ⟨#[116,97,98,108,101]⟩,
 ⟨#[112,114,105,109,97,114,121]⟩,
 ⟨#[117,110,105,113,117,101]⟩,
 ⟨#[102,111,114,101,105,103,110]⟩,
 ⟨#[114,101,102,101,114,101,110,99,101,115]⟩,
 ⟨#[99,104,101,99,107]⟩,
 ⟨#[105,110,116]⟩,
 ⟨#[98,111,111,108]⟩,
 ⟨#[116,101,120,116]⟩,
 ⟨#[99,111,117,110,116]⟩,
 ⟨#[115,117,109]⟩,
 ⟨#[109,105,110]⟩,
 ⟨#[109,97,120]⟩,
 ⟨#[99,111,97,108,101,115,99,101]⟩,
 ⟨#[108,101,110,103,116,104]⟩,
 ⟨#[115,97,109,101]⟩,
 ⟨#[109,111,100]⟩]
theorem words_res:words=resWords.map (·.data.toList):=rfl
theorem res_len:resWords.length=52:=rfl
theorem mem_words {s:ByteArray} : s.data.toList∈words↔s∈resWords:=by
 rw [words_res,List.mem_map]
 constructor
 ·rintro ⟨a,ha,h⟩
  rw [←Go.WideShapes.bytes_inj h];exact ha
 ·exact fun h=>⟨s,h,rfl⟩
theorem str_at {w:World} {h:Hd} {i:Nat} {xs:List ByteArray} (hr:Row w 1 scells h xs) (hi:i<xs.length) :w.cell? ⟨h.b,h.o+i,none⟩ =some (.string xs[i]):=by
 have:=hr.2.2.2 i hi 0 _ rfl
 simpa using this
structure IsName (s:ByteArray) :Prop where
 lo:1≤s.size
 hi:s.size≤16
 fst: ∀h:0<s.size,lett ((s[0]'h).toNat:Int) =true
 all: ∀j (h:j<s.size),vch ((s[j]'h).toNat:Int) =true
 new:s ∉ resWords
theorem no_blank {s:ByteArray} (h: ∀j (h:j<s.size),vch ((s[j]'h).toNat:Int) =true) :32 ∉ s.data.toList:=by
 intro hm;obtain⟨j,hj,he⟩:=List.getElem_of_mem hm;have hj':j<s.size:=by simpa using hj
 have:=h j hj';have e: (s[j]'hj') =32:=he;rw [e]at this;exact absurd this (by decide)
theorem data_ne {s:ByteArray} (h:1≤s.size) :s.data.toList≠ []:=by
 intro e;have h2:s.data.toList.length=0:=by rw [e];rfl
 have h3:s.data.toList.length=s.size:=by simp
 omega
theorem glue_iff {s:ByteArray} (hs:1≤s.size) (h: ∀j (h:j<s.size),vch ((s[j]'h).toNat:Int) =true) :Lib.contains (glue words) (32 :: (s.data.toList ++ [32])) =true↔s∈resWords:=by
 rw [reserved_iff (no_blank h) (data_ne hs),mem_words]
open Classical in
noncomputable def pb (p:Prop) :Bool:=decide p
theorem pb_yes {p:Prop} (h:p) :pb p=true:=by unfold pb;simp [h]
theorem pb_no {p:Prop} (h: ¬p) :pb p=false:=by unfold pb;simp [h]
theorem letter_any (c:Int) (w:World) :Calls Tryz.prog 146 #[.int .u8 c] w fun e w'=>e = .returned (.bool (lett c))∧w=w':=by
 by_cases h1:97≤c
 ·by_cases h2:c≤122
  ·have hr:=ai (show lett c=true by unfold lett;exact decide_eq_true ⟨h1,h2⟩)
   go_enter Tryz.func146,Tryz.ntmps146;go_wp2;go_ret
   exact⟨retb hr.o.symm,rfl⟩
  ·have hr:=ai (show lett c=false by unfold lett;exact decide_eq_false (fun h=>h2 h.2))
   go_enter Tryz.func146,Tryz.ntmps146;go_wp2;go_ret
   exact⟨retb hr.o.symm,rfl⟩
 ·have hr:=ai (show lett c=false by unfold lett;exact decide_eq_false (fun h=>h1 h.1))
  go_enter Tryz.func146,Tryz.ntmps146;go_wp2;go_ret
  exact⟨retb hr.o.symm,rfl⟩
theorem reserved_any (w:World) :Calls Tryz.prog 161 #[] w fun e w'=>(∃h:Hd,e = .returned (.slice h.ao resWords.length h.cap)∧Row w' 1 scells h resWords)∧Below w.heap.size w w':=by
 go_enter Tryz.func161,Tryz.ntmps161;go_wp2;go_ret
 refine⟨⟨⟨some ⟨w.heap.size,0,none⟩,52⟩,rfl,Nat.le_of_eq rfl,(by show 52≤maxLen;unfold maxLen;omega),fun _=>⟨rfl,by simp [Hd.b]⟩,fun i hi j v hv=> ?_⟩,belA _⟩
 have hj:j=0:=by
  have:=(List.getElem?_eq_some_iff.1 hv).1
  simpa using this
 subst hj;have hv':Value.string resWords[i] =v:=by simpa using hv
 subst hv'
 show(w.alloc (.cells _ _)).cell? ⟨w.heap.size,0+i*1+0,none⟩ =_
 rw [cell_of_row (w.alloc (.cells _ _)) w.heap.size _ _ _ (0,0) (heap_alloc_new w _)];have: ∀i (hi:i<resWords.length),(resWords.map Value.string)[i]? = some (.string resWords[i]):=fun i hi=>by simp [hi]
 have h2:=this i hi
 simpa [resWords]using h2
theorem contains_res (r:ByteArray) (hr:r.data.toList=glue words) (s:ByteArray) :Lib.contains r.data.toList ((⟨#[32]⟩ ++ s ++ ⟨#[32]⟩ :ByteArray)).data.toList=Lib.contains (glue words) (32 :: (s.data.toList ++ [32])):=by
 rw [hr];simp
theorem scontains_any (r:ByteArray) (hr:r.data.toList=glue words) (hz:r.size<4294967281) (s:ByteArray) (w:World) (h:w.ShapedOpen Tryz.prog) :Calls Tryz.prog 147 #[.string r,.string (⟨#[32]⟩ ++ s ++ ⟨#[32]⟩)] w fun e w'=>e = .returned (.bool (Lib.contains (glue words) (32 :: (s.data.toList ++ [32]))))∧w'=w:=by
 obtain⟨t,ht⟩ : ∃t:ByteArray,t= ⟨#[32]⟩ ++ s ++ ⟨#[32]⟩:=⟨_,rfl⟩;have h2:=contains_res r hr s;rw [←ht]at h2 ⊢;have h1:=Tryz.strings_Contains_shaped r t w h hz;rw [h2]at h1;exact h1
theorem empty_ne {s:ByteArray} (h: ¬s.size=0) :s.toList.isEmpty=false:=by
 rw [Lib.toList_data]
 cases hl:s.data.toList with
 | nil=>
  have h2:s.data.toList.length=0:=by rw [hl];rfl
  have h3:s.data.toList.length=s.size:=by simp
  omega
 | cons _ _=>rfl
theorem name_empty (s:ByteArray) (w:World) (h0:s.size=0) :
  Calls Tryz.prog 104 #[.string s] w fun e w'=>e = .returned (.bool (pb (IsName s)))∧w=w':=by
 have hr:=ai (pb_no (p:=IsName s) (fun h=>by have:=h.lo;omega))
 have he:s.toList.isEmpty=true:=by
  rw [Lib.toList_data];have h3:s.data.toList.length=s.size:=by simp
  rw [List.eq_nil_of_length_eq_zero (h3.trans h0)];rfl
 go_enter Tryz.func104,Tryz.ntmps104;go_wp2;go_ret
 exact⟨retb hr.o.symm,rfl⟩
theorem name_long (s:ByteArray) (w:World) (h0: ¬s.size=0) (h16:16< (s.size:Int)) (hs:s.size≤9223372036854775807) :
  Calls Tryz.prog 104 #[.string s] w fun e w'=>e = .returned (.bool (pb (IsName s)))∧w=w':=by
 have hr:=ai (pb_no (p:=IsName s) (fun h=>by have:=h.hi;omega))
 have hne:=empty_ne h0
 go_enter Tryz.func104,Tryz.ntmps104;go_wp2;go_ret
 exact⟨retb hr.o.symm,rfl⟩
theorem name_first (s:ByteArray) (w:World) (h0: ¬s.size=0) (hpos:0<s.size) (h16: ¬16< (s.size:Int)) (hl0:lett ((s[0]'hpos).toNat:Int) =false) :
  Calls Tryz.prog 104 #[.string s] w fun e w'=>e = .returned (.bool (pb (IsName s)))∧w=w':=by
 have hr:=ai (pb_no (p:=IsName s) (fun h=>by have:=h.fst hpos;rw [hl0]at this;cases this))
 have hne:=empty_ne h0;have HL:=ai hl0;clear hl0
 go_enter Tryz.func104,Tryz.ntmps104;go_wp2_with (go_at_call 146;refine(letter_any _ _).mono ?_;rintro e w1 ⟨rfl,rfl⟩;rw [HL.o])
 go_ret
 exact⟨retb hr.o.symm,rfl⟩
theorem name_word (s:ByteArray) (w:World) (hsh:w.ShapedOpen Tryz.prog) (h0: ¬s.size=0) (hpos:0<s.size) (h16: ¬16< (s.size:Int)) (hl0:lett ((s[0]'hpos).toNat:Int) =true) (hq:Lib.contains (glue words) (32 :: (s.data.toList ++ [32])) =true) (hs:s.size≤9223372036854775807) :
  Calls Tryz.prog 104 #[.string s] w fun e w'=>e = .returned (.bool (pb (IsName s)))∧w=w':=by
 have hne:=empty_ne h0;have HL:=ai hl0;clear hl0;have HSH:=ai hsh;clear hsh;have HQ:=ai hq;clear hq
 go_enter Tryz.func104,Tryz.ntmps104;go_wp2_with (first
  | (go_at_call 146;refine(letter_any _ _).mono ?_;rintro e w1 ⟨rfl,rfl⟩;rw [HL.o])
  | (go_at_call 147;refine(scontains_any _ (by kernel_rfl) (of_decide_eq_true (by kernel_rfl)) s _ HSH.o).mono ?_;rintro e w1 ⟨rfl,hw1⟩;rw [hw1,HQ.o]))
 go_ret
 refine⟨retb (pb_no fun h=> ?_).symm,rfl⟩
 exact h.new ((glue_iff h.lo h.all).1 HQ.o)
theorem name_loop (s:ByteArray) (w:World) (hsh:w.ShapedOpen Tryz.prog) (h0: ¬s.size=0) (hpos:0<s.size) (h16: ¬16< (s.size:Int)) (hl0:lett ((s[0]'hpos).toNat:Int) =true) (hq:Lib.contains (glue words) (32 :: (s.data.toList ++ [32])) =false) (hs:s.size≤9223372036854775807) :
  Calls Tryz.prog 104 #[.string s] w fun e w'=>e = .returned (.bool (pb (IsName s)))∧w=w':=by
 have hne:=empty_ne h0;have HL:=ai hl0;clear hl0;have HSH:=ai hsh;clear hsh;have HQ:=ai hq;clear hq
 go_enter Tryz.func104,Tryz.ntmps104;go_wp2_with (first
  | (go_at_call 146;refine(letter_any _ _).mono ?_;rintro e w1 ⟨rfl,rfl⟩;rw [HL.o])
  | (go_at_call 147;refine(scontains_any _ (by kernel_rfl) (of_decide_eq_true (by kernel_rfl)) s _ HSH.o).mono ?_;rintro e w1 ⟨rfl,hw1⟩;rw [hw1,HQ.o]))
 go_loop [26] (fun i=>∃k:Nat,k≤s.size∧i = .int .i64 k∧∀j (h:j<s.size),j<k→vch ((s[j]'h).toNat:Int) =true) (fun i=>s.size - (intOf i).toNat)
 case atStart=>exact⟨0,Nat.zero_le _,rfl,fun j _ h=>absurd h (by omega)⟩
 case round=>
  obtain⟨k,hk,rfl,hno⟩:=hrel;have HN:=ai hno;clear hno;by_cases hlt:k<s.size
  ·have hki: (k:Int) < (s.size:Int):=by omega
   obtain⟨c,hc⟩ : ∃c:Int,c= ((s[k]'hlt).toNat:Int):=⟨_,rfl⟩;have HVC:=ai (show vch c= (lett c || decide (48≤c∧c≤57) || decide (c=95))from rfl)
   have HCE:=ai hc
   cases hl:lett c
   ·have HLC:=ai (show lett ((s[k]'hlt).toNat:Int) =false by rw [←hc];exact hl)
    have HLD:=ai hl;clear hl;by_cases hd:48≤c∧c≤57
    ·have g1: (48:Int)≤((s[k]'hlt).toNat:Int):=by omega
     have g2: ((s[k]'hlt).toNat:Int)≤57:=by omega
     have HV:=ai (show vch c=true by rw [HVC.o,decide_eq_true hd];simp)
     clear hc hd;go_wp2_with (go_at_call 146;refine(letter_any _ _).mono ?_;rintro e w1 ⟨rfl,rfl⟩;rw [HLC.o])
     go_round
     case rel=>
      refine⟨k+1,by omega,by go_num,fun j hj h=> ?_⟩
      by_cases e:j=k
      ·subst e;rw [←HCE.o];exact HV.o
      ·exact HN.o j hj (by omega)
     case measure=>simp [intOf];omega
    ·by_cases hu:c=95
     ·have g3: (((s[k]'hlt).toNat:Int) != 95) =false:=by rw [←hc,hu];rfl
      have g4: (57:Int) < ((s[k]'hlt).toNat:Int):=by omega
      have g5: ¬((s[k]'hlt).toNat:Int) <48:=by omega
      have HV:=ai (show vch c=true by rw [HVC.o,decide_eq_true hu];simp)
      clear hc hd hu;go_wp2_with (go_at_call 146;refine(letter_any _ _).mono ?_;rintro e w1 ⟨rfl,rfl⟩;rw [HLC.o])
      go_round
      case rel=>
       refine⟨k+1,by omega,by go_num,fun j hj h=> ?_⟩
       by_cases e:j=k
       ·subst e;rw [←HCE.o];exact HV.o
       ·exact HN.o j hj (by omega)
      case measure=>simp [intOf];omega
     ·have g3: (((s[k]'hlt).toNat:Int) != 95) =true:=by rw [←hc];simpa using hu
      have HV:=ai (show vch c=false by rw [HVC.o,HLD.o,decide_eq_false hd,decide_eq_false hu];rfl)
      have hr:=ai (pb_no (p:=IsName s) (fun h=>by have:=h.all k hlt;rw [←hc,HV.o]at this;cases this))
      by_cases hlow:c<48
      ·have g6: ((s[k]'hlt).toNat:Int) <48:=by omega
       clear hc hd hu hlow;go_wp2_with (go_at_call 146;refine(letter_any _ _).mono ?_;rintro e w1 ⟨rfl,rfl⟩;rw [HLC.o])
       go_ret
       exact⟨retb hr.o.symm,rfl⟩
      ·have g6: ¬((s[k]'hlt).toNat:Int) <48:=by omega
       have g7: (57:Int) < ((s[k]'hlt).toNat:Int):=by omega
       clear hc hd hu hlow;go_wp2_with (go_at_call 146;refine(letter_any _ _).mono ?_;rintro e w1 ⟨rfl,rfl⟩;rw [HLC.o])
       go_ret
       exact⟨retb hr.o.symm,rfl⟩
   ·have HLC:=ai (show lett ((s[k]'hlt).toNat:Int) =true by rw [←hc];exact hl)
    have HV:=ai (show vch c=true by rw [HVC.o,hl];rfl)
    clear hl hc;go_wp2_with (go_at_call 146;refine(letter_any _ _).mono ?_;rintro e w1 ⟨rfl,rfl⟩;rw [HLC.o])
    go_round
    case rel=>
     refine⟨k+1,by omega,by go_num,fun j hj h=> ?_⟩
     by_cases e:j=k
     ·subst e;rw [←HCE.o];exact HV.o
     ·exact HN.o j hj (by omega)
    case measure=>simp [intOf];omega
  ·go_wp2
   go_ret
   have ha: ∀j (h:j<s.size),vch ((s[j]'h).toNat:Int) =true:=fun j h=>HN.o j h (by omega)
   refine⟨retb (pb_yes ⟨by omega,by omega,fun _=>HL.o,ha,fun h=> ?_⟩).symm,rfl⟩
   have:=(glue_iff (by omega) ha).2 h
   rw [HQ.o]at this
   cases this
theorem name_any (s:ByteArray) (w:World) (hsh:w.ShapedOpen Tryz.prog) (hs:s.size≤9223372036854775807) :
  Calls Tryz.prog 104 #[.string s] w fun e w'=>e = .returned (.bool (pb (IsName s)))∧w=w':=by
 by_cases h0:s.size=0
 ·exact name_empty s w h0
 by_cases h16:16< (s.size:Int)
 ·exact name_long s w h0 h16 hs
 have hpos:0<s.size:=by omega
 cases hl0:lett ((s[0]'hpos).toNat:Int)
 ·exact name_first s w h0 hpos h16 hl0
 cases hq:Lib.contains (glue words) (32 :: (s.data.toList ++ [32]))
 ·exact name_loop s w hsh h0 hpos h16 hl0 hq hs
 ·exact name_word s w hsh h0 hpos h16 hl0 hq hs
end Go.Proofs.YtiijaaohphokcaaGreatDoor
/- schema.table of a table with one key column and nothing else. -/
namespace Go.Proofs.YtiijaaohphokcaaGreatDoor
open Go.RowKit
structure PCols (cols:List Col) :Prop where
 l1:0<cols.length
 l8:cols.length≤8
 nm: ∀c∈cols,IsName c.name
 ty: ∀c∈cols,c.typ=1∨c.typ=3
 nu: ∀c∈cols,c.nul=false
 un: ∀j (h:j<cols.length),fi (cnamed (cols[j]).name) cols=j
theorem box1X {w X:World} {c0:Array Value} {T0:TypeId} (h:w.alloc (.cells c0 T0) =X) :Box X w.heap.size c0 T0∧Below w.heap.size w X:=by
 subst h;exact⟨Box.new _ _ _,belA _⟩
theorem boxA {z:World} {c0:Array Value} {T0:TypeId} {w':World} (h:Below (z.alloc (.cells c0 T0)).heap.size (z.alloc (.cells c0 T0)) w') :Box w' z.heap.size c0 T0:=(Box.new _ _ _).below h
theorem ShX {x y:World} (h:x.ShapedOpen Tryz.prog) (hb:Below x.heap.size x y) :y.ShapedOpen Tryz.prog:=h.keptBut (hb.frame (fun _=>False)) (by simp)
theorem table_plain (nm:ByteArray) (ch:Hd) (cols:List Col) (ph:Hd) (w:World) (hx: (pt nm ch cols ph).In w) (hp:PCols cols) (hsh:w.ShapedOpen Tryz.prog) :
  Calls Tryz.prog 106 #[.agg #[.string nm,.slice ch.ao cols.length ch.cap,.slice ph.ao 1 ph.cap,.slice none 0 0,.slice none 0 0,.slice none 0 0]] w fun e w'=>e = .returned (.int .i64 0)∧Below w.heap.size w w':=by
 obtain⟨X,hX⟩ : ∃X,w.alloc (.cells #[.string nm,.slice ch.ao cols.length ch.cap,.slice ph.ao 1 ph.cap,.slice none 0 0,.slice none 0 0,.slice none 0 0] 78) =X:=⟨_,rfl⟩;have HB0:=ai (box1X hX).2;have HBX:=ai (box1X hX).1;have HX:=ai (hx.mono HB0.o);have HSH:=ai (ShX hsh HB0.o);have y0:=HBX.o.cell (j:=0) rfl
 have y1:=HBX.o.cell (j:=1) rfl
 have y2:=HBX.o.cell (j:=2) rfl
 have y3:=HBX.o.cell (j:=3) rfl
 have y4:=HBX.o.cell (j:=4) rfl
 have y5:=HBX.o.cell (j:=5) rfl
 have HP:=ai hp;have c1: ¬(8:Int) <cols.length:=by have:=hp.l8;omega
 have h0b: ((cols.length:Int) == 0) =false:=beq_eq_false_iff_ne.2 (by have:=hp.l1;omega)
 have hn:=hx.rc.len;clear hx hsh hp
 go_enter Tryz.func106,Tryz.ntmps106;go_upto_region 1 with fail
 try rw [hX]
 clear hX;go_wp2;clear y0 y1 y2 y3 y4 y5;go_loopw [43] (fun i wr=>∃k:Nat,k≤cols.length∧i = .int .i64 k∧Hid (Below X.heap.size X wr)) (fun i _=>cols.length - (intOf i).toNat)
 case atStart=>exact⟨0,Nat.zero_le _,rfl,Below.refl _ _⟩
 case round=>
  obtain⟨k,hk,rfl,HBW⟩:=hrel;have HXR:=ai (HX.o.mono HBW.o);by_cases hlt:k<cols.length
  ·have hix:=HXR.o.rc.ix hlt Tryz.underlying73 sz30
   obtain⟨q0,q1,q2⟩:=col_at HXR.o.rc hlt;have hbk:=HXR.o.rc.blk hlt;have HNM:=ai (show(cols[k]).name.size≤9223372036854775807 by have:=(HXR.o.cs _ (List.getElem_mem hlt)).1;unfold maxLen at this;omega)
   have HBN:=ai (pb_yes (HP.o.nm _ (List.getElem_mem hlt)));have HFI:=ai (HP.o.un k hlt);have HWA:=ai (bT HBW.o (belA (w:=wr) (.cells #[.string (cols[k]).name,.int .i64 (cols[k]).typ,.bool (cols[k]).nul] 72)))
   have HSR:=ai (ShX HSH.o HWA.o);have HBA:=ai (HBX.o.below HWA.o);have z0:=HBA.o.cell (j:=0) rfl
   have z1:=HBA.o.cell (j:=1) rfl
   have z2:=HBA.o.cell (j:=2) rfl
   have z3:=HBA.o.cell (j:=3) rfl
   have z4:=HBA.o.cell (j:=4) rfl
   have z5:=HBA.o.cell (j:=5) rfl
   rcases HP.o.ty _ (List.getElem_mem hlt)with hty|hty
   all_goals
    rw [hty]at q1 HWA HSR z0 z1 z2 z3 z4 z5;go_wp2_with (first
     | (go_at_call 104;refine(name_any _ _ HSR.o HNM.o).mono ?_;rintro e w1 ⟨rfl,rfl⟩;rw [HBN.o])
     | (go_at_call 150;refine(column_any (pt nm ch cols ph) _ _ (HX.o.mono HWA.o)).mono ?_;rintro e w2 ⟨rfl,hb2⟩;rw [HFI.o];have HB2:=ai (bT HWA.o hb2);have hbq:=boxA hb2;have x0:=hbq.cell (j:=0) rfl;have x1:=hbq.cell (j:=1) rfl;clear hb2 hbq z0 z1 z2 z3 z4 z5))
    go_roundw
    case rel=>exact⟨k+1,by omega,by go_num,HB2.o⟩
    case measure=>simp [intOf];omega
  ·have HBR:=ai (HBX.o.below HBW.o)
   have z0:=HBR.o.cell (j:=0) rfl
   have z1:=HBR.o.cell (j:=1) rfl
   have z2:=HBR.o.cell (j:=2) rfl
   have z3:=HBR.o.cell (j:=3) rfl
   have z4:=HBR.o.cell (j:=4) rfl
   have z5:=HBR.o.cell (j:=5) rfl
   go_wp2_with (go_at_call 151;refine(keys_plain nm ch cols ph _ HXR.o HP.o.l1 HP.o.nu).mono ?_;rintro e w3 ⟨rfl,hb3⟩;have HB3:=ai (bT HBW.o hb3);have HX3:=ai (HBR.o.below hb3);clear hb3 z0 z1 z2 z3 z4 z5;have v5:=HX3.o.cell (j:=5) rfl)
   go_loopw [84] (fun i wz=>i = .int .i64 0∧wz=w3) (fun i _=>0)
   case atStart=>exact⟨rfl,rfl⟩
   case round=>
    obtain⟨rfl,rfl⟩:=hrel;go_wp2;go_ret
    exact⟨rfl,bT HB0.o HB3.o⟩
end Go.Proofs.YtiijaaohphokcaaGreatDoor
/- The order of tables: T holds the targets of each table. Plain lists. -/
namespace Go.Proofs.YtiijaaohphokcaaGreatDoor
def rdy (T:List (List Nat)) (D:List Nat) (i:Nat) :Prop:=i ∉ D∧∀(h:i<T.length),∀t∈T[i],t∈D
def isNext (T:List (List Nat)) (D:List Nat) (i:Nat) :Prop:=i<T.length∧rdy T D i∧∀j,j<i→¬rdy T D j
def noNext (T:List (List Nat)) (D:List Nat) :Prop:=∀j,j<T.length→¬rdy T D j
inductive Took (T:List (List Nat)) :List Nat→Prop where
 | nil:Took T []
 | snoc {D:List Nat} {i:Nat} : Took T D→isNext T D i→Took T (D ++ [i])
def Ends (T:List (List Nat)) (D:List Nat) (ok:Bool) :Prop:=Took T D∧(if ok=true then D.length=T.length else D.length<T.length∧noNext T D)
end Go.Proofs.YtiijaaohphokcaaGreatDoor

/- A part of the proof of AlgebraMade. -/
import Derived.Test.YtogalchclmmfgaaDoorP07
import Derived.Test.YtogalchclmmfgaaDoorP04
import Derived.Test.YtogalchclmmfgaaDoorP05
set_option maxRecDepth 100000
set_option maxHeartbeats 16000000
namespace Go.Proofs.YtogalchclmmfgaaDoor
open Go.RowKit
theorem sizes_len: ∀l:List Ex,l.length≤Ex.sizes l
 | []=>Nat.zero_le _
 | k :: r=>by
  have:=sizes_len r;have h1:=Ex.size_eq k;simp only [List.length_cons,Ex.sizes];omega
theorem sizes_mem: ∀(l:List Ex) (k:Ex),k∈l→k.size≤Ex.sizes l
 | [],k,h=>by cases h
 | x :: r,k,h=>by
  simp only [Ex.sizes];rcases List.mem_cons.1 h with rfl|h
  ·omega
  ·have:=sizes_mem r k h
   omega
theorem eclean_v (op typ num:Int) (text:ByteArray) (col:Int) (ko:Option Addr) (kl kc:Nat) (w:World) (ht:text.size≤maxLen) :
  Calls Tryd.prog 102 #[.agg #[.int .i64 op,.int .i64 typ,.int .i64 num,.string text,.int .i64 col,.slice ko kl kc]] w fun r w'=>r = .returned (.bool (plainE op typ num text col))∧Below w.heap.size w w':=by
 unfold plainE
 by_cases h1:op=1
 ·rw [h1];exact eclean_1 _ _ _ _ _ _ _ _
 by_cases h2:op=2
 ·rw [h2];exact eclean_2 _ _ _ _ _ _ _ _
 by_cases h3:op=3
 ·rw [h3];exact eclean_3 _ _ _ _ _ _ _ _
 by_cases h4:op=4
 ·rw [h4];exact eclean_4 _ _ _ _ _ _ _ _ ht
 by_cases h5:op=5
 ·rw [h5];exact eclean_5 _ _ _ _ _ _ _ _
 rw [if_neg h1,if_neg h2,if_neg h3,if_neg h4,if_neg h5];exact eclean_o _ _ _ _ _ _ _ _ _ (by simpa using h1) (by simpa using h2) (by simpa using h3) (by simpa using h4) (by simpa using h5)
theorem ret_tt {a a' b b':Int} (h: (a,b) = (a',b')) :Ending.returned (.tuple #[.int .i64 a,.int .i64 b]) = .returned (.tuple #[.int .i64 a',.int .i64 b']):=by injection h with h1 h2;rw [h1,h2]
theorem topT_pass {ts:List Int} {op typ num:Int} {text:ByteArray} {col:Int} {l:List Int} (h1:1≤op∧op≤28) (h2:plainE op typ num text col=true) (h3:kidsOk op l.length=true) (h4: ¬(op=5∧(col<0∨(ts.length:Int)≤col))) :
  topT ts op typ num text col l=if isT (resE ts op typ col l) =true then (resE ts op typ col l,0) else (0,4):=by
 unfold topT
 rw [if_neg (fun h=>h ⟨h1,h2⟩),if_neg (fun h=>h h3),if_neg h4]
theorem topT_1 {ts:List Int} {op typ num:Int} {text:ByteArray} {col:Int} {l:List Int} (h: ¬((1≤op∧op≤28)∧plainE op typ num text col=true)) :topT ts op typ num text col l= (0,1):=by unfold topT;rw [if_pos h]
theorem topT_9 {ts:List Int} {op typ num:Int} {text:ByteArray} {col:Int} {l:List Int} (h1:1≤op∧op≤28) (h2:plainE op typ num text col=true) (h3:kidsOk op l.length=false) :topT ts op typ num text col l= (0,9):=by
 unfold topT;rw [if_neg (fun h=>h ⟨h1,h2⟩),if_pos (by rw [h3];simp)]
theorem topT_3 {ts:List Int} {op typ num:Int} {text:ByteArray} {col:Int} {l:List Int} (h1:1≤op∧op≤28) (h2:plainE op typ num text col=true) (h3:kidsOk op l.length=true) (h4:op=5∧(col<0∨(ts.length:Int)≤col)) :topT ts op typ num text col l= (0,3):=by
 unfold topT;rw [if_neg (fun h=>h ⟨h1,h2⟩),if_neg (fun h=>h h3),if_pos h4]
theorem plain_typ {typ num:Int} {text:ByteArray} {col:Int} (h:plainE 1 typ num text col=true) :isT typ=true:=by
 unfold plainE at h
 rw [if_pos rfl]at h;simp only [Bool.and_eq_true]at h;exact h.1.1.1
theorem types4 (i:Nat) (hi:i<ops.length) (h0:0<i) (n:Nat) (hk:kidsOk i n=true) : (ops[i].2.2.1=4→0<n)∧(ops[i].2.2.1=6→3≤n)∧(ops[i].2.2.2=0→¬i=1→¬i=5→0<n)∧(i=5→fitB ops[i].2.2.1=fun _=>true):=by
 have hl:=ops_len;have hc:i=1∨i=2∨i=3∨i=4∨i=5∨i=6∨i=7∨i=8∨i=9∨i=10∨i=11∨i=12∨i=13∨i=14∨i=15∨i=16∨i=17∨i=18∨i=19∨i=20∨i=21∨i=22∨i=23∨i=24∨i=25∨i=26∨i=27∨i=28:=by omega
 rcases hc with rfl|rfl|rfl|rfl|rfl|rfl|rfl|rfl|rfl|rfl|rfl|rfl|rfl|rfl|rfl|rfl|rfl|rfl|rfl|rfl|rfl|rfl|rfl|rfl|rfl|rfl|rfl|rfl
 all_goals simp [kidsOk]at hk
 all_goals (refine⟨?_,?_,?_,?_⟩<;>simp [ops]<;>first|omega| (funext l;rfl) |skip)
theorem ty_icells (ts:List Int) (l:List Ex) : (l.flatMap fun x=> [Value.int .i64 (x.ty ts).1]) = (l.map fun x=>(x.ty ts).1).flatMap icells:=by
 induction l with
 | nil=>rfl
 | cons x l ih=>simp [List.flatMap_cons,ih]
theorem isT_64 {t:Int} (h:isT t=true) :int64 t:=by have:=isT_ne h;constructor<;>omega
theorem etyp_any {w0:World} {e:Ex} (h0:e.In w0) : ∀(ts:IL) (w:World),ts.In w→e.In w→OpsAt w→e.size≤1000000→
  Calls Tryd.prog 87 #[.slice ts.h.ao ts.l.length ts.h.cap,.agg #[.int .i64 e.op,.int .i64 e.typ,.int .i64 e.num,.string e.text,.int .i64 e.col,.slice e.kh.ao e.kids.length e.kh.cap]] w fun r w'=>r = .returned (.tuple #[.int .i64 (e.ty ts.l).1,.int .i64 (e.ty ts.l).2])∧Below w.heap.size w w':=by
 induction h0 with
 | mk e _ _ _ ih=>
 intro ts w hts hin hf hsz;have IH:=ai ih;clear ih;obtain⟨op,typ,num,text,col,kh,kids⟩:=e
 dsimp only at *
 obtain⟨i0,hi,hz0,hz1,hz2⟩:=info_parts info3;have HI:=ai (And.intro hi (And.intro hz0 (And.intro hz1 hz2)));clear hi hz0 hz1 hz2;have HTX:=ai (show text.size≤maxLen from hin.wf.2.2.2.1)
 have hnk:kids.length≤1000000:=by
  have h1:=sizes_len kids;have h2:=Ex.size_eq ⟨op,typ,num,text,col,kh,kids⟩
  dsimp only at h2
  omega
 have HKS:=ai (show∀k∈kids,k.size≤1000000 from fun k hk=>by
  have h1:=sizes_mem kids k hk;have h2:=Ex.size_eq ⟨op,typ,num,text,col,kh,kids⟩
  dsimp only at h2
  omega)
 have hntl:=hts.1.len;have HTS:=ai hts;have HIN:=ai hin;have HF:=ai hf;clear hts hin hf hsz
 go_enter Tryd.func87,Tryd.ntmps87;go_wp2;go_loopw [6,17] (fun v i wr=>∃k:Nat,k≤kids.length∧i = .int .i64 k∧Hid (wr.ownsRow (w.heap.size+1) 3 1 v k ((kids.take k).flatMap fun x=> [.int .i64 (x.ty ts.l).1]))∧Hid (∀j (hj:j<kids.length),j<k→(kids[j].ty ts.l).2=0)∧Hid (Below (w.heap.size+1) (w.alloc (.cells #[.int .i64 op,.int .i64 typ,.int .i64 num,.string text,.int .i64 col,.slice kh.ao kids.length kh.cap] 45)) wr)) (fun _ i _=>kids.length - (intOf i).toNat)
 case atStart=>exact⟨0,Nat.zero_le _,rfl,World.ownsRow_nil _ _ _ _,fun j _ h=>absurd h (by omega),Below.refl _ _⟩
 case round=>
  obtain⟨k,hk,rfl,HO,HN,HBW⟩:=hrel;have HB:=ai ((belA (w:=w) (.cells #[.int .i64 op,.int .i64 typ,.int .i64 num,.string text,.int .i64 col,.slice kh.ao kids.length kh.cap] 45)).trans (HBW.o.mono (by omega)))
  have hszl:w.heap.size+1≤wr.heap.size:=by have:=HBW.o.size;simpa using this
  have HINR:=ai (HIN.o.mono HB.o);have HTSR:=ai (HTS.o.mono HB.o);have HFR:=ai (HF.o.mono HB.o);by_cases hlt:k<kids.length
  ·have hrow:Row wr 6 Ex.cells kh kids:=HINR.o.row
   have hix:=hrow.ix hlt Tryd.underlying37 sz41;obtain⟨c0,c1,c2,c3,c4,c5⟩:=ex_at hrow hlt;have hbk:=hrow.blk hlt;clear hrow;have HKIN:=ai (show(kids[k]).In wr from HINR.o.kid _ (List.getElem_mem hlt))
   have HC:=ai (show Calls Tryd.prog 87 #[.slice ts.h.ao ts.l.length ts.h.cap,.agg #[.int .i64 (kids[k]).op,.int .i64 (kids[k]).typ,.int .i64 (kids[k]).num,.string (kids[k]).text,.int .i64 (kids[k]).col,.slice (kids[k]).kh.ao (kids[k]).kids.length (kids[k]).kh.cap]] (wr.alloc (.cells #[.int .i64 (kids[k]).op,.int .i64 (kids[k]).typ,.int .i64 (kids[k]).num,.string (kids[k]).text,.int .i64 (kids[k]).col,.slice (kids[k]).kh.ao (kids[k]).kids.length (kids[k]).kh.cap] 45)) fun r w'=>r = .returned (.tuple #[.int .i64 ((kids[k]).ty ts.l).1,.int .i64 ((kids[k]).ty ts.l).2])∧Below (wr.alloc (.cells #[.int .i64 (kids[k]).op,.int .i64 (kids[k]).typ,.int .i64 (kids[k]).num,.string (kids[k]).text,.int .i64 (kids[k]).col,.slice (kids[k]).kh.ao (kids[k]).kids.length (kids[k]).kh.cap] 45)).heap.size (wr.alloc (.cells #[.int .i64 (kids[k]).op,.int .i64 (kids[k]).typ,.int .i64 (kids[k]).num,.string (kids[k]).text,.int .i64 (kids[k]).col,.slice (kids[k]).kh.ao (kids[k]).kids.length (kids[k]).kh.cap] 45)) w' from
    IH.o _ (List.getElem_mem hlt) ts _ (HTSR.o.mono (belA _)) (HKIN.o.mono (belA _)) (HFR.o.mono (belA _)) (HKS.o _ (List.getElem_mem hlt)))
   by_cases hev: ((kids[k]).ty ts.l).2=0
   ·have HEV:=ai hev
    clear hev;go_wp2_with (first
     | (go_at_call 87;refine HC.o.mono ?_;rintro e w1 ⟨rfl,hb1⟩;rw [HEV.o];have HB1:=ai (bT (belA _) hb1);have hs1:=HB1.o.size;clear hb1)
     | (at_builtin;refine wpList_append_own _ rfl _ _ 22 rfl (w.heap.size+1) 3 i0 (.int .i64 0) 1 8 Tryd.underlying22 HI.o.1 HI.o.2.1 HI.o.2.2.1 HI.o.2.2.2 rfl (by decide) _ _ _ rfl ((HO.o.kept (only_below HB1.o none) (Classical.em _)).alloc _) ⟨w1.heap.size,0,none⟩ 1 1 [.int .i64 ((kids[k]).ty ts.l).1] rfl rfl (new_cells (l:= [_])) one_int (by unfold maxLen;omega) (by omega) (by simp;omega) ?_;intro v' w2 hown' hgrow _))
    have HO':=ai (own_snoc (cells:=fun x:Ex=> [.int .i64 (x.ty ts.l).1]) hlt hown')
    have HG:=ai hgrow;clear hown' hgrow;go_roundw
    case rel=>
     refine⟨k+1,by omega,by go_num,HO'.o,fun j hj h=> ?_,?_⟩
     ·by_cases e:j=k
      ·subst e;exact HEV.o
      ·exact HN.o j hj (by omega)
     ·exact grown1 (HBW.o.trans (HB1.o.mono hszl)) (by omega) HG.o (fun b hb=>(HO.o.lt b hb).1)
    case measure=>simp [intOf];omega
   ·obtain⟨ev,hv⟩ : ∃x,((kids[k]).ty ts.l).2=x:=⟨_,rfl⟩
    have hne: (ev == 0) =false:=by rw [←hv];simpa using hev
    have HEV:=ai hv;have HEZ:=ai hev;clear hv hev;go_wp2_with (first
     | (go_at_call 87;refine HC.o.mono ?_;rintro e w1 ⟨rfl,hb1⟩;rw [HEV.o];have HB1:=ai (bT (belA _) hb1);have hs1:=HB1.o.size;clear hb1))
    go_ret2
    refine⟨ret_tt ?_,HB.o.trans (HB1.o.mono HB.o.size)⟩
    rw [Ex.ty_eq,topF_err hlt HEZ.o HN.o,HEV.o]
  ·obtain rfl:k=kids.length:=by omega
   obtain⟨r,hv,hrl,hri⟩:=il_mk (xs:=kids.map fun x=>(x.ty ts.l).1) (e:=3) (n:=kids.length) (base:=w.heap.size+1) (by have:=HO.o;rw [List.take_length,ty_icells]at this;exact this) (fun n hn=>by
    obtain⟨x,hx,rfl⟩:=List.mem_map.1 hn;obtain⟨j,hj,rfl⟩:=List.getElem_of_mem hx;exact isT_64 (ty_ok (HN.o j hj hj)))
   have HRT:=ai (show∀t∈r.l,isT t=true from fun t ht=>by
    rw [hrl]at ht;obtain⟨x,hx,rfl⟩:=List.mem_map.1 ht;obtain⟨j,hj,rfl⟩:=List.getElem_of_mem hx;exact ty_ok (HN.o j hj hj))
   have HTOP:=ai (show Ex.ty ts.l ⟨op,typ,num,text,col,kh,kids⟩ =topT ts.l op typ num text col r.l by rw [Ex.ty_eq,topF_all (fun j hj=>HN.o j hj hj),hrl])
   have HRN:=ai (show r.l.length=kids.length by rw [hrl,List.length_map])
   have hnr:r.l.length≤1000000:=by have:=HRN.o;omega
   have HRI:=ai hri;subst hv;clear hri hrl HO HN;have HY:=ai (show∀w':World,Below wr.heap.size wr w'→∀(j:Nat) (v:Value),(#[.int .i64 op,.int .i64 typ,.int .i64 num,.string text,.int .i64 col,.slice kh.ao kids.length kh.cap] :Array Value)[j]? = some v→w'.cell? ⟨w.heap.size,j,none⟩ =some v from fun w' h j v hv=>box_cell (by rw [World.size_alloc];exact HBW.o.trans (h.mono hszl)) hv)
   have x0:=HY.o wr (Below.refl _ _) 0 _ rfl;have x1:=HY.o wr (Below.refl _ _) 1 _ rfl;have x2:=HY.o wr (Below.refl _ _) 2 _ rfl;have x3:=HY.o wr (Below.refl _ _) 3 _ rfl;have x4:=HY.o wr (Below.refl _ _) 4 _ rfl;have x5:=HY.o wr (Below.refl _ _) 5 _ rfl;by_cases hop:1≤op∧op≤28
   ·obtain⟨i,rfl⟩ : ∃i:Nat,op=i:=⟨op.toNat,by omega⟩
    have hio:i<ops.length:=by have:=ops_len;omega
    have hi0:0<i:=by omega
    obtain⟨nm,hnm⟩ : ∃x,ops[i].1=x:=⟨_,rfl⟩;obtain⟨kd,hkd⟩ : ∃x,ops[i].2.1=x:=⟨_,rfl⟩;obtain⟨ty,hty⟩ : ∃x,ops[i].2.2.1=x:=⟨_,rfl⟩;obtain⟨ow,how⟩ : ∃x,ops[i].2.2.2=x:=⟨_,rfl⟩;have HFD:=ai (show∀w:World,OpsAt w→Calls Tryd.prog 118 #[.int .i64 (i:Nat)] w fun e w'=>e = .returned (.tuple #[.agg #[.string nm,.int .i64 kd,.int .i64 ty,.int .i64 ow],.bool true])∧Below w.heap.size w w' from fun w h=>by rw [←hnm,←hkd,←hty,←how];exact find_op i hio hi0 w h)
    have HCN:=ai (show cntB i kd kids.length=kidsOk i r.l.length by rw [←hkd,HRN.o];exact kids_cnt i hio hi0 _)
    have HT4:=ai (fun h=>types4 i hio hi0 r.l.length h)
    have HPR:=ai (fun h1 h2=>prog_res ts.l i hio hi0 typ col r.l h1 HRT.o h2)
    rw [hty,how]at HT4 HPR;have HOP:=ai hop;clear hnm hkd hty how hop;obtain⟨bp,hbp⟩ : ∃b,plainE i typ num text col=b:=⟨_,rfl⟩;have HBP:=ai hbp;clear hbp;obtain⟨bk,hbk⟩ : ∃b,kidsOk i r.l.length=b:=⟨_,rfl⟩;have HBK:=ai hbk;have HCB:=ai (HCN.o.trans hbk);clear hbk
    cases bp
    ·have HRES:=ai (HTOP.o.trans (topT_1 (fun h=>by rw [HBP.o]at h;cases h.2)))
     go_wp2_with (first
      | (go_at_call 101;refine(known_hit nm kd ty ow i HFD.o typ num text col kh.ao kids.length kh.cap _ HFR.o).mono ?_;rintro e w1 ⟨rfl,hb1⟩;rw [HCB.o];have HB1:=ai (bT hb1 (belA (.cells #[.string nm,.int .i64 kd,.int .i64 ty,.int .i64 ow] 135)));clear hb1 x0 x1 x2 x3 x4 x5;have y0:=HY.o _ HB1.o 0 _ rfl;have y1:=HY.o _ HB1.o 1 _ rfl;have y2:=HY.o _ HB1.o 2 _ rfl;have y3:=HY.o _ HB1.o 3 _ rfl;have y4:=HY.o _ HB1.o 4 _ rfl;have y5:=HY.o _ HB1.o 5 _ rfl)
      | (go_at_call 102;refine(eclean_v _ typ num text _ kh.ao kids.length kh.cap _ HTX.o).mono ?_;rintro e w2 ⟨rfl,hb2⟩;rw [HBP.o];have HB2:=ai (bT HB1.o hb2);clear y0 y1 y2 y3 y4 y5;have z0:=HY.o _ HB2.o 0 _ rfl;have z1:=HY.o _ HB2.o 1 _ rfl;have z2:=HY.o _ HB2.o 2 _ rfl;have z3:=HY.o _ HB2.o 3 _ rfl;have z4:=HY.o _ HB2.o 4 _ rfl;have z5:=HY.o _ HB2.o 5 _ rfl;have o0:=box_cell hb2 (j:=0) rfl;have o1:=box_cell hb2 (j:=1) rfl;have o2:=box_cell hb2 (j:=2) rfl;have o3:=box_cell hb2 (j:=3) rfl;have HK2:=ai hb2;clear hb2))
     go_ret2
     exact⟨ret_tt HRES.o.symm,HB.o.trans (HB2.o.mono HB.o.size)⟩
    cases bk
    ·have HRES:=ai (HTOP.o.trans (topT_9 HOP.o HBP.o HBK.o))
     go_wp2_with (first
      | (go_at_call 101;refine(known_hit nm kd ty ow i HFD.o typ num text col kh.ao kids.length kh.cap _ HFR.o).mono ?_;rintro e w1 ⟨rfl,hb1⟩;rw [HCB.o];have HB1:=ai (bT hb1 (belA (.cells #[.string nm,.int .i64 kd,.int .i64 ty,.int .i64 ow] 135)));clear hb1 x0 x1 x2 x3 x4 x5;have y0:=HY.o _ HB1.o 0 _ rfl;have y1:=HY.o _ HB1.o 1 _ rfl;have y2:=HY.o _ HB1.o 2 _ rfl;have y3:=HY.o _ HB1.o 3 _ rfl;have y4:=HY.o _ HB1.o 4 _ rfl;have y5:=HY.o _ HB1.o 5 _ rfl)
      | (go_at_call 102;refine(eclean_v _ typ num text _ kh.ao kids.length kh.cap _ HTX.o).mono ?_;rintro e w2 ⟨rfl,hb2⟩;rw [HBP.o];have HB2:=ai (bT HB1.o hb2);clear y0 y1 y2 y3 y4 y5;have z0:=HY.o _ HB2.o 0 _ rfl;have z1:=HY.o _ HB2.o 1 _ rfl;have z2:=HY.o _ HB2.o 2 _ rfl;have z3:=HY.o _ HB2.o 3 _ rfl;have z4:=HY.o _ HB2.o 4 _ rfl;have z5:=HY.o _ HB2.o 5 _ rfl;have o0:=box_cell hb2 (j:=0) rfl;have o1:=box_cell hb2 (j:=1) rfl;have o2:=box_cell hb2 (j:=2) rfl;have o3:=box_cell hb2 (j:=3) rfl;have HK2:=ai hb2;clear hb2))
     go_ret2
     exact⟨ret_tt HRES.o.symm,HB.o.trans (HB2.o.mono HB.o.size)⟩
    obtain⟨h4,h6,hz,hfb⟩:=HT4.o HBK.o;by_cases h5:i=5
    ·have H5:=ai (show(i:Int) =5 by omega)
     have H5N:=ai h5;have h5b: ((i:Int) == 5) =true:=by simpa using H5.o
     clear h5;by_cases hc0:col<0
     ·have HRES:=ai (HTOP.o.trans (topT_3 HOP.o HBP.o HBK.o ⟨H5.o,.inl hc0⟩))
      go_wp2_with (first
       | (go_at_call 101;refine(known_hit nm kd ty ow i HFD.o typ num text _ kh.ao kids.length kh.cap _ HFR.o).mono ?_;rintro e w1 ⟨rfl,hb1⟩;rw [HCB.o];have HB1:=ai (bT hb1 (belA (.cells #[.string nm,.int .i64 kd,.int .i64 ty,.int .i64 ow] 135)));clear hb1 x0 x1 x2 x3 x4 x5;have y0:=HY.o _ HB1.o 0 _ rfl;have y1:=HY.o _ HB1.o 1 _ rfl;have y2:=HY.o _ HB1.o 2 _ rfl;have y3:=HY.o _ HB1.o 3 _ rfl;have y4:=HY.o _ HB1.o 4 _ rfl;have y5:=HY.o _ HB1.o 5 _ rfl)
       | (go_at_call 102;refine(eclean_v _ typ num text _ kh.ao kids.length kh.cap _ HTX.o).mono ?_;rintro e w2 ⟨rfl,hb2⟩;rw [HBP.o];have HB2:=ai (bT HB1.o hb2);clear y0 y1 y2 y3 y4 y5;have z0:=HY.o _ HB2.o 0 _ rfl;have z1:=HY.o _ HB2.o 1 _ rfl;have z2:=HY.o _ HB2.o 2 _ rfl;have z3:=HY.o _ HB2.o 3 _ rfl;have z4:=HY.o _ HB2.o 4 _ rfl;have z5:=HY.o _ HB2.o 5 _ rfl;have o0:=box_cell hb2 (j:=0) rfl;have o1:=box_cell hb2 (j:=1) rfl;have o2:=box_cell hb2 (j:=2) rfl;have o3:=box_cell hb2 (j:=3) rfl;have HK2:=ai hb2;clear hb2))
      go_ret2
      exact⟨ret_tt HRES.o.symm,HB.o.trans (HB2.o.mono HB.o.size)⟩
     by_cases hcn: (ts.l.length:Int)≤col
     ·have HRES:=ai (HTOP.o.trans (topT_3 HOP.o HBP.o HBK.o ⟨H5.o,.inr hcn⟩))
      go_wp2_with (first
       | (go_at_call 101;refine(known_hit nm kd ty ow i HFD.o typ num text _ kh.ao kids.length kh.cap _ HFR.o).mono ?_;rintro e w1 ⟨rfl,hb1⟩;rw [HCB.o];have HB1:=ai (bT hb1 (belA (.cells #[.string nm,.int .i64 kd,.int .i64 ty,.int .i64 ow] 135)));clear hb1 x0 x1 x2 x3 x4 x5;have y0:=HY.o _ HB1.o 0 _ rfl;have y1:=HY.o _ HB1.o 1 _ rfl;have y2:=HY.o _ HB1.o 2 _ rfl;have y3:=HY.o _ HB1.o 3 _ rfl;have y4:=HY.o _ HB1.o 4 _ rfl;have y5:=HY.o _ HB1.o 5 _ rfl)
       | (go_at_call 102;refine(eclean_v _ typ num text _ kh.ao kids.length kh.cap _ HTX.o).mono ?_;rintro e w2 ⟨rfl,hb2⟩;rw [HBP.o];have HB2:=ai (bT HB1.o hb2);clear y0 y1 y2 y3 y4 y5;have z0:=HY.o _ HB2.o 0 _ rfl;have z1:=HY.o _ HB2.o 1 _ rfl;have z2:=HY.o _ HB2.o 2 _ rfl;have z3:=HY.o _ HB2.o 3 _ rfl;have z4:=HY.o _ HB2.o 4 _ rfl;have z5:=HY.o _ HB2.o 5 _ rfl;have o0:=box_cell hb2 (j:=0) rfl;have o1:=box_cell hb2 (j:=1) rfl;have o2:=box_cell hb2 (j:=2) rfl;have o3:=box_cell hb2 (j:=3) rfl;have HK2:=ai hb2;clear hb2))
      go_ret2
      exact⟨ret_tt HRES.o.symm,HB.o.trans (HB2.o.mono HB.o.size)⟩
     have HRES0:=ai ((HTOP.o.trans (topT_pass HOP.o HBP.o HBK.o (fun h=>by omega))).trans (HPR.o HBK.o (fun h=>by have:=H5N.o;omega)).symm)
     obtain⟨c,rfl⟩ : ∃c:Nat,col=c:=⟨col.toNat,by omega⟩
     have hcl:c<ts.l.length:=by omega
     have HGC:=ai (show ts.l.getD (Int.toNat (c:Int)) 0=ts.l[c] by simp [List.getD,hcl])
     have hixc:=IL.ix HTSR.o hcl;have HCC:=ai (show∀w':World,Below wr.heap.size wr w'→w'.cell? ⟨ts.h.b,ts.h.o+c,none⟩ =some (.int .i64 ts.l[c])from fun w' h=>int_at (HTSR.o.mono h).1 hcl)
     have hcb:=HTSR.o.1.blk hcl;obtain⟨bt,hbt⟩ : ∃b,decide (1≤ts.l[c]∧ts.l[c]≤3) =b:=⟨_,rfl⟩;have HBT:=ai hbt;clear hbt
     cases bt
     ·have HRES:=ai (HRES0.o.trans (show progT ts.l i typ c r.l ty ow= (0,4) by unfold progT;rw [if_pos H5.o,HGC.o];unfold isT;rw [HBT.o];rfl))
      go_wp2_with (first
       | (go_at_call 101;refine(known_hit nm kd ty ow i HFD.o typ num text _ kh.ao kids.length kh.cap _ HFR.o).mono ?_;rintro e w1 ⟨rfl,hb1⟩;rw [HCB.o];have HB1:=ai (bT hb1 (belA (.cells #[.string nm,.int .i64 kd,.int .i64 ty,.int .i64 ow] 135)));clear hb1 x0 x1 x2 x3 x4 x5;have y0:=HY.o _ HB1.o 0 _ rfl;have y1:=HY.o _ HB1.o 1 _ rfl;have y2:=HY.o _ HB1.o 2 _ rfl;have y3:=HY.o _ HB1.o 3 _ rfl;have y4:=HY.o _ HB1.o 4 _ rfl;have y5:=HY.o _ HB1.o 5 _ rfl)
       | (go_at_call 102;refine(eclean_v _ typ num text _ kh.ao kids.length kh.cap _ HTX.o).mono ?_;rintro e w2 ⟨rfl,hb2⟩;rw [HBP.o];have HB2:=ai (bT HB1.o hb2);clear y0 y1 y2 y3 y4 y5;have z0:=HY.o _ HB2.o 0 _ rfl;have z1:=HY.o _ HB2.o 1 _ rfl;have z2:=HY.o _ HB2.o 2 _ rfl;have z3:=HY.o _ HB2.o 3 _ rfl;have z4:=HY.o _ HB2.o 4 _ rfl;have z5:=HY.o _ HB2.o 5 _ rfl;have o0:=box_cell hb2 (j:=0) rfl;have o1:=box_cell hb2 (j:=1) rfl;have o2:=box_cell hb2 (j:=2) rfl;have o3:=box_cell hb2 (j:=3) rfl;have cc2:=HCC.o _ HB2.o;have HK2:=ai hb2;clear hb2)
       | (go_at_call 103;refine(istype_any _ _).mono ?_;rintro e w3 ⟨rfl,hb3⟩;rw [HBT.o];have HB3:=ai (bT HB2.o hb3);clear z0 z1 z2 z3 z4 z5 o0 o1 o2 o3 cc2;have hk3:=bT HK2.o hb3;have p0:=box_cell hk3 (j:=0) rfl;have p1:=box_cell hk3 (j:=1) rfl;have p2:=box_cell hk3 (j:=2) rfl;have p3:=box_cell hk3 (j:=3) rfl;have HK3:=ai hk3;clear hb3 hk3))
      go_ret2
      exact⟨ret_tt HRES.o.symm,HB.o.trans (HB3.o.mono HB.o.size)⟩
     ·have HRES:=ai (HRES0.o.trans (show progT ts.l i typ c r.l ty ow= (ts.l[c],0) by unfold progT;rw [if_pos H5.o,HGC.o];unfold isT;rw [HBT.o];rfl))
      have HFB:=ai (show fitB ty r.l=true by rw [hfb H5N.o])
      go_wp2_with (first
       | (go_at_call 101;refine(known_hit nm kd ty ow i HFD.o typ num text _ kh.ao kids.length kh.cap _ HFR.o).mono ?_;rintro e w1 ⟨rfl,hb1⟩;rw [HCB.o];have HB1:=ai (bT hb1 (belA (.cells #[.string nm,.int .i64 kd,.int .i64 ty,.int .i64 ow] 135)));clear hb1 x0 x1 x2 x3 x4 x5;have y0:=HY.o _ HB1.o 0 _ rfl;have y1:=HY.o _ HB1.o 1 _ rfl;have y2:=HY.o _ HB1.o 2 _ rfl;have y3:=HY.o _ HB1.o 3 _ rfl;have y4:=HY.o _ HB1.o 4 _ rfl;have y5:=HY.o _ HB1.o 5 _ rfl)
       | (go_at_call 102;refine(eclean_v _ typ num text _ kh.ao kids.length kh.cap _ HTX.o).mono ?_;rintro e w2 ⟨rfl,hb2⟩;rw [HBP.o];have HB2:=ai (bT HB1.o hb2);clear y0 y1 y2 y3 y4 y5;have z0:=HY.o _ HB2.o 0 _ rfl;have z1:=HY.o _ HB2.o 1 _ rfl;have z2:=HY.o _ HB2.o 2 _ rfl;have z3:=HY.o _ HB2.o 3 _ rfl;have z4:=HY.o _ HB2.o 4 _ rfl;have z5:=HY.o _ HB2.o 5 _ rfl;have o0:=box_cell hb2 (j:=0) rfl;have o1:=box_cell hb2 (j:=1) rfl;have o2:=box_cell hb2 (j:=2) rfl;have o3:=box_cell hb2 (j:=3) rfl;have cc2:=HCC.o _ HB2.o;have HK2:=ai hb2;clear hb2)
       | (go_at_call 103;refine(istype_any _ _).mono ?_;rintro e w3 ⟨rfl,hb3⟩;rw [HBT.o];have HB3:=ai (bT HB2.o hb3);clear z0 z1 z2 z3 z4 z5 o0 o1 o2 o3 cc2;have hk3:=bT HK2.o hb3;have p0:=box_cell hk3 (j:=0) rfl;have p1:=box_cell hk3 (j:=1) rfl;have p2:=box_cell hk3 (j:=2) rfl;have p3:=box_cell hk3 (j:=3) rfl;have HK3:=ai hk3;clear hb3 hk3)
       | (go_at_call 104;refine(fit_any nm kd ty ow r _ (HRI.o.mono HB3.o) h4 h6).mono ?_;rintro e w4 ⟨rfl,hb4⟩;rw [HFB.o];have HB4:=ai (bT HB3.o hb4);clear hb4 p0 p1 p2 p3;have cc4:=HCC.o _ HB4.o;have q0:=HY.o _ HB4.o 0 _ rfl;have q1:=HY.o _ HB4.o 1 _ rfl;have q2:=HY.o _ HB4.o 2 _ rfl;have q3:=HY.o _ HB4.o 3 _ rfl;have q4:=HY.o _ HB4.o 4 _ rfl;have q5:=HY.o _ HB4.o 5 _ rfl))
      go_ret2
      exact⟨ret_tt HRES.o.symm,HB.o.trans (HB4.o.mono HB.o.size)⟩
    have h5b: ((i:Int) == 5) =false:=by simpa using (show¬(i:Int) =5 by omega)
    have HRES0:=ai ((HTOP.o.trans (topT_pass HOP.o HBP.o HBK.o (fun h=>by omega))).trans (HPR.o HBK.o (fun h=>by subst h;exact plain_typ HBP.o)).symm)
    obtain⟨bf,hbf⟩ : ∃b,fitB ty r.l=b:=⟨_,rfl⟩;have HFB:=ai hbf;clear hbf
    cases bf
    ·have HRES:=ai (HRES0.o.trans (show progT ts.l i typ col r.l ty ow= (0,4) by unfold progT;rw [if_neg (by omega),HFB.o,if_pos rfl]))
     go_wp2_with (first
      | (go_at_call 101;refine(known_hit nm kd ty ow i HFD.o typ num text col kh.ao kids.length kh.cap _ HFR.o).mono ?_;rintro e w1 ⟨rfl,hb1⟩;rw [HCB.o];have HB1:=ai (bT hb1 (belA (.cells #[.string nm,.int .i64 kd,.int .i64 ty,.int .i64 ow] 135)));clear hb1 x0 x1 x2 x3 x4 x5;have y0:=HY.o _ HB1.o 0 _ rfl;have y1:=HY.o _ HB1.o 1 _ rfl;have y2:=HY.o _ HB1.o 2 _ rfl;have y3:=HY.o _ HB1.o 3 _ rfl;have y4:=HY.o _ HB1.o 4 _ rfl;have y5:=HY.o _ HB1.o 5 _ rfl)
      | (go_at_call 102;refine(eclean_v _ typ num text _ kh.ao kids.length kh.cap _ HTX.o).mono ?_;rintro e w2 ⟨rfl,hb2⟩;rw [HBP.o];have HB2:=ai (bT HB1.o hb2);clear y0 y1 y2 y3 y4 y5;have z0:=HY.o _ HB2.o 0 _ rfl;have z1:=HY.o _ HB2.o 1 _ rfl;have z2:=HY.o _ HB2.o 2 _ rfl;have z3:=HY.o _ HB2.o 3 _ rfl;have z4:=HY.o _ HB2.o 4 _ rfl;have z5:=HY.o _ HB2.o 5 _ rfl;have o0:=box_cell hb2 (j:=0) rfl;have o1:=box_cell hb2 (j:=1) rfl;have o2:=box_cell hb2 (j:=2) rfl;have o3:=box_cell hb2 (j:=3) rfl;have HK2:=ai hb2;clear hb2)
      | (go_at_call 104;refine(fit_any nm kd ty ow r _ (HRI.o.mono HB2.o) h4 h6).mono ?_;rintro e w4 ⟨rfl,hb4⟩;rw [HFB.o];have HB4:=ai (bT HB2.o hb4);have hk4:=bT HK2.o hb4;clear z0 z1 z2 z3 z4 z5 o0 o1 o2 o3;have p0:=box_cell hk4 (j:=0) rfl;have p1:=box_cell hk4 (j:=1) rfl;have p2:=box_cell hk4 (j:=2) rfl;have p3:=box_cell hk4 (j:=3) rfl;clear hb4 hk4;have q0:=HY.o _ HB4.o 0 _ rfl;have q1:=HY.o _ HB4.o 1 _ rfl;have q2:=HY.o _ HB4.o 2 _ rfl;have q3:=HY.o _ HB4.o 3 _ rfl;have q4:=HY.o _ HB4.o 4 _ rfl;have q5:=HY.o _ HB4.o 5 _ rfl))
     go_ret2
     exact⟨ret_tt HRES.o.symm,HB.o.trans (HB4.o.mono HB.o.size)⟩
    by_cases h1:i=1
    ·have h1b: ((i:Int) == 1) =true:=by simpa using (show(i:Int) =1 by omega)
     have HRES:=ai (HRES0.o.trans (show progT ts.l i typ col r.l ty ow= (typ,0) by unfold progT;rw [if_neg (by omega),HFB.o,if_neg (by simp),if_pos (by omega)]))
     clear h1;go_wp2_with (first
      | (go_at_call 101;refine(known_hit nm kd ty ow i HFD.o typ num text col kh.ao kids.length kh.cap _ HFR.o).mono ?_;rintro e w1 ⟨rfl,hb1⟩;rw [HCB.o];have HB1:=ai (bT hb1 (belA (.cells #[.string nm,.int .i64 kd,.int .i64 ty,.int .i64 ow] 135)));clear hb1 x0 x1 x2 x3 x4 x5;have y0:=HY.o _ HB1.o 0 _ rfl;have y1:=HY.o _ HB1.o 1 _ rfl;have y2:=HY.o _ HB1.o 2 _ rfl;have y3:=HY.o _ HB1.o 3 _ rfl;have y4:=HY.o _ HB1.o 4 _ rfl;have y5:=HY.o _ HB1.o 5 _ rfl)
      | (go_at_call 102;refine(eclean_v _ typ num text _ kh.ao kids.length kh.cap _ HTX.o).mono ?_;rintro e w2 ⟨rfl,hb2⟩;rw [HBP.o];have HB2:=ai (bT HB1.o hb2);clear y0 y1 y2 y3 y4 y5;have z0:=HY.o _ HB2.o 0 _ rfl;have z1:=HY.o _ HB2.o 1 _ rfl;have z2:=HY.o _ HB2.o 2 _ rfl;have z3:=HY.o _ HB2.o 3 _ rfl;have z4:=HY.o _ HB2.o 4 _ rfl;have z5:=HY.o _ HB2.o 5 _ rfl;have o0:=box_cell hb2 (j:=0) rfl;have o1:=box_cell hb2 (j:=1) rfl;have o2:=box_cell hb2 (j:=2) rfl;have o3:=box_cell hb2 (j:=3) rfl;have HK2:=ai hb2;clear hb2)
      | (go_at_call 104;refine(fit_any nm kd ty ow r _ (HRI.o.mono HB2.o) h4 h6).mono ?_;rintro e w4 ⟨rfl,hb4⟩;rw [HFB.o];have HB4:=ai (bT HB2.o hb4);have hk4:=bT HK2.o hb4;clear z0 z1 z2 z3 z4 z5 o0 o1 o2 o3;have p0:=box_cell hk4 (j:=0) rfl;have p1:=box_cell hk4 (j:=1) rfl;have p2:=box_cell hk4 (j:=2) rfl;have p3:=box_cell hk4 (j:=3) rfl;clear hb4 hk4;have q0:=HY.o _ HB4.o 0 _ rfl;have q1:=HY.o _ HB4.o 1 _ rfl;have q2:=HY.o _ HB4.o 2 _ rfl;have q3:=HY.o _ HB4.o 3 _ rfl;have q4:=HY.o _ HB4.o 4 _ rfl;have q5:=HY.o _ HB4.o 5 _ rfl))
     go_ret2
     exact⟨ret_tt HRES.o.symm,HB.o.trans (HB4.o.mono HB.o.size)⟩
    have h1b: ((i:Int) == 1) =false:=by simpa using (show¬(i:Int) =1 by omega)
    by_cases how:ow=0
    ·subst how
     have hpos:=hz rfl h1 h5;have HRES:=ai (HRES0.o.trans (show progT ts.l i typ col r.l ty 0= (r.l.getD (r.l.length - 1) 0,0) by unfold progT;rw [if_neg (by omega),HFB.o,if_neg (by simp),if_neg (by omega),if_pos rfl]))
     have hql:r.l.length - 1<r.l.length:=by omega
     have HGC:=ai (show r.l.getD (r.l.length - 1) 0=r.l[r.l.length - 1] by simp [List.getD,hql])
     have hixl: ∀U,(Instr.indexAt 22 (.slice r.h.ao r.l.length r.h.cap) (.int .i64 ((r.l.length:Int) - 1))).run Tryd.prog U = .ok (.pointer (some ⟨r.h.b,r.h.o+ (r.l.length - 1),none⟩)) U:=fun U=>by
      have:=IL.ix HRI.o hql U;rw [show((r.l.length - 1:Nat) :Int) = (r.l.length:Int) - 1 by omega]at this
      exact this
     have HCC:=ai (show∀w':World,Below wr.heap.size wr w'→w'.cell? ⟨r.h.b,r.h.o+ (r.l.length - 1),none⟩ =some (.int .i64 r.l[r.l.length - 1])from fun w' h=>int_at (HRI.o.mono h).1 hql)
     have hcb:=HRI.o.1.blk hql;go_wp2_with (first
      | (go_at_call 101;refine(known_hit nm kd ty 0 i HFD.o typ num text col kh.ao kids.length kh.cap _ HFR.o).mono ?_;rintro e w1 ⟨rfl,hb1⟩;rw [HCB.o];have HB1:=ai (bT hb1 (belA (.cells #[.string nm,.int .i64 kd,.int .i64 ty,.int .i64 0] 135)));clear hb1 x0 x1 x2 x3 x4 x5;have y0:=HY.o _ HB1.o 0 _ rfl;have y1:=HY.o _ HB1.o 1 _ rfl;have y2:=HY.o _ HB1.o 2 _ rfl;have y3:=HY.o _ HB1.o 3 _ rfl;have y4:=HY.o _ HB1.o 4 _ rfl;have y5:=HY.o _ HB1.o 5 _ rfl)
      | (go_at_call 102;refine(eclean_v _ typ num text _ kh.ao kids.length kh.cap _ HTX.o).mono ?_;rintro e w2 ⟨rfl,hb2⟩;rw [HBP.o];have HB2:=ai (bT HB1.o hb2);clear y0 y1 y2 y3 y4 y5;have z0:=HY.o _ HB2.o 0 _ rfl;have z1:=HY.o _ HB2.o 1 _ rfl;have z2:=HY.o _ HB2.o 2 _ rfl;have z3:=HY.o _ HB2.o 3 _ rfl;have z4:=HY.o _ HB2.o 4 _ rfl;have z5:=HY.o _ HB2.o 5 _ rfl;have o0:=box_cell hb2 (j:=0) rfl;have o1:=box_cell hb2 (j:=1) rfl;have o2:=box_cell hb2 (j:=2) rfl;have o3:=box_cell hb2 (j:=3) rfl;have HK2:=ai hb2;clear hb2)
      | (go_at_call 104;refine(fit_any nm kd ty 0 r _ (HRI.o.mono HB2.o) h4 h6).mono ?_;rintro e w4 ⟨rfl,hb4⟩;rw [HFB.o];have HB4:=ai (bT HB2.o hb4);have hk4:=bT HK2.o hb4;clear z0 z1 z2 z3 z4 z5 o0 o1 o2 o3;have p0:=box_cell hk4 (j:=0) rfl;have p1:=box_cell hk4 (j:=1) rfl;have p2:=box_cell hk4 (j:=2) rfl;have p3:=box_cell hk4 (j:=3) rfl;have cc4:=HCC.o _ HB4.o;clear hb4 hk4;have q0:=HY.o _ HB4.o 0 _ rfl;have q1:=HY.o _ HB4.o 1 _ rfl;have q2:=HY.o _ HB4.o 2 _ rfl;have q3:=HY.o _ HB4.o 3 _ rfl;have q4:=HY.o _ HB4.o 4 _ rfl;have q5:=HY.o _ HB4.o 5 _ rfl))
     go_ret2
     exact⟨ret_tt (HRES.o.trans (by rw [HGC.o])).symm,HB.o.trans (HB4.o.mono HB.o.size)⟩
    ·have howb: (ow == 0) =false:=by simpa using how
     have HRES:=ai (HRES0.o.trans (show progT ts.l i typ col r.l ty ow= (ow,0) by unfold progT;rw [if_neg (by omega),HFB.o,if_neg (by simp),if_neg (by omega),if_neg how]))
     clear how;go_wp2_with (first
      | (go_at_call 101;refine(known_hit nm kd ty ow i HFD.o typ num text col kh.ao kids.length kh.cap _ HFR.o).mono ?_;rintro e w1 ⟨rfl,hb1⟩;rw [HCB.o];have HB1:=ai (bT hb1 (belA (.cells #[.string nm,.int .i64 kd,.int .i64 ty,.int .i64 ow] 135)));clear hb1 x0 x1 x2 x3 x4 x5;have y0:=HY.o _ HB1.o 0 _ rfl;have y1:=HY.o _ HB1.o 1 _ rfl;have y2:=HY.o _ HB1.o 2 _ rfl;have y3:=HY.o _ HB1.o 3 _ rfl;have y4:=HY.o _ HB1.o 4 _ rfl;have y5:=HY.o _ HB1.o 5 _ rfl)
      | (go_at_call 102;refine(eclean_v _ typ num text _ kh.ao kids.length kh.cap _ HTX.o).mono ?_;rintro e w2 ⟨rfl,hb2⟩;rw [HBP.o];have HB2:=ai (bT HB1.o hb2);clear y0 y1 y2 y3 y4 y5;have z0:=HY.o _ HB2.o 0 _ rfl;have z1:=HY.o _ HB2.o 1 _ rfl;have z2:=HY.o _ HB2.o 2 _ rfl;have z3:=HY.o _ HB2.o 3 _ rfl;have z4:=HY.o _ HB2.o 4 _ rfl;have z5:=HY.o _ HB2.o 5 _ rfl;have o0:=box_cell hb2 (j:=0) rfl;have o1:=box_cell hb2 (j:=1) rfl;have o2:=box_cell hb2 (j:=2) rfl;have o3:=box_cell hb2 (j:=3) rfl;have HK2:=ai hb2;clear hb2)
      | (go_at_call 104;refine(fit_any nm kd ty ow r _ (HRI.o.mono HB2.o) h4 h6).mono ?_;rintro e w4 ⟨rfl,hb4⟩;rw [HFB.o];have HB4:=ai (bT HB2.o hb4);have hk4:=bT HK2.o hb4;clear z0 z1 z2 z3 z4 z5 o0 o1 o2 o3;have p0:=box_cell hk4 (j:=0) rfl;have p1:=box_cell hk4 (j:=1) rfl;have p2:=box_cell hk4 (j:=2) rfl;have p3:=box_cell hk4 (j:=3) rfl;clear hb4 hk4;have q0:=HY.o _ HB4.o 0 _ rfl;have q1:=HY.o _ HB4.o 1 _ rfl;have q2:=HY.o _ HB4.o 2 _ rfl;have q3:=HY.o _ HB4.o 3 _ rfl;have q4:=HY.o _ HB4.o 4 _ rfl;have q5:=HY.o _ HB4.o 5 _ rfl))
     go_ret2
     exact⟨ret_tt HRES.o.symm,HB.o.trans (HB4.o.mono HB.o.size)⟩
   ·have HRES:=ai (HTOP.o.trans (topT_1 (fun h=>hop h.1)))
    go_wp2_with (first
     | (go_at_call 101;refine(known_miss op typ num text col kh.ao kids.length kh.cap (by omega) _ HFR.o).mono ?_;rintro e w1 ⟨rfl,hb1⟩;have HB1:=ai hb1;clear hb1))
    go_ret2
    exact⟨ret_tt HRES.o.symm,HB.o.trans ((HB1.o.trans ((belA _).mono HB1.o.size)).mono HB.o.size)⟩
end Go.Proofs.YtogalchclmmfgaaDoor
namespace Go.Proofs.YtogalchclmmfgaaDoor
open Go.RowKit
mutual
def Ex.dep:Ex→Nat
 | ⟨_,_,_,_,_,_,kids⟩=>Ex.deps kids+1
def Ex.deps:List Ex→Nat
 | []=>0
 | k :: r=>Nat.max (Ex.dep k) (Ex.deps r)
end
theorem Ex.dep_eq (q:Ex) :q.dep=Ex.deps q.kids+1:=by cases q;rw [Ex.dep]
theorem Ex.deps_snoc (l:List Ex) (x:Ex) :Ex.deps (l ++ [x]) =Nat.max (Ex.deps l) x.dep:=by
 induction l with
 | nil=>simp [Ex.deps]
 | cons a l ih=>
  simp only [List.cons_append,Ex.deps,ih,Nat.max_def]
  repeat' split
  all_goals omega
theorem Ex.deps_take {l:List Ex} {k:Nat} (h:k<l.length) :Ex.deps (l.take (k+1)) =Nat.max (Ex.deps (l.take k)) l[k].dep:=by
 rw [List.take_succ_eq_append_getElem h,Ex.deps_snoc]
mutual
theorem Ex.dep_le: ∀q:Ex,q.dep≤q.size
 | ⟨_,_,_,_,_,_,kids⟩=>by rw [Ex.dep,Ex.size];have:=Ex.deps_le kids;omega
theorem Ex.deps_le: ∀l:List Ex,Ex.deps l≤Ex.sizes l
 | []=>by simp [Ex.deps]
 | k :: r=>by
  rw [Ex.deps,Ex.sizes];have h1:=Ex.dep_le k;have h2:=Ex.deps_le r;exact Nat.max_le.2 ⟨by omega,by omega⟩
end
theorem Ex.size_kid {q k:Ex} (h:k∈q.kids) :k.size≤q.size:=by
 have h1:=sizes_mem q.kids k h;have h2:=Ex.size_eq q;omega
theorem edep_any {w0:World} {q:Ex} (h0:q.In w0) : ∀(w:World),q.In w→q.size≤1000000→
  Calls Tryd.prog 86 #[.agg #[.int .i64 q.op,.int .i64 q.typ,.int .i64 q.num,.string q.text,.int .i64 q.col,.slice q.kh.ao q.kids.length q.kh.cap]] w fun r w'=>r = .returned (.int .i64 (q.dep:Nat))∧Below w.heap.size w w':=by
 induction h0 with
 | mk q _ _ _ ih=>
 intro w hin hwt;have IH:=ai ih;clear ih;have l1:=hin.row.len;have HDL:=ai (Nat.le_trans (Ex.dep_le q) hwt);have HIN:=ai (hin.mono (belA (.cells #[.int .i64 q.op,.int .i64 q.typ,.int .i64 q.num,.string q.text,.int .i64 q.col,.slice q.kh.ao q.kids.length q.kh.cap] 45)));clear hin
 go_enter Tryd.func86,Tryd.ntmps86;go_wp2;go_loopw [3,9] (fun v i wr=>∃k:Nat,k≤q.kids.length∧i = .int .i64 k∧v = .int .i64 ((Ex.deps (q.kids.take k) :Nat) :Int)∧Below (w.alloc (.cells #[.int .i64 q.op,.int .i64 q.typ,.int .i64 q.num,.string q.text,.int .i64 q.col,.slice q.kh.ao q.kids.length q.kh.cap] 45)).heap.size (w.alloc (.cells #[.int .i64 q.op,.int .i64 q.typ,.int .i64 q.num,.string q.text,.int .i64 q.col,.slice q.kh.ao q.kids.length q.kh.cap] 45)) wr) (fun _ i _=>q.kids.length - (intOf i).toNat)
 case atStart=>exact⟨0,Nat.zero_le _,rfl,val_eq (by simp [Ex.deps]),Below.refl _ _⟩
 case round=>
  obtain⟨k,hk,rfl,rfl,hbw⟩:=hrel;have HBW:=ai hbw;clear hbw;by_cases hlt:k<q.kids.length
  ·have hlti: (k:Int) <q.kids.length:=by omega
   have hrow:=HIN.o.row.mono HBW.o;have hix:=hrow.ix hlt Tryd.underlying37 sz41;obtain⟨c0,c1,c2,c3,c4,c5⟩:=ex_at hrow hlt;have hbk:=hrow.blk hlt;have HXI:=ai ((HIN.o.kid _ (List.getElem_mem hlt)).mono HBW.o);have HWK:=ai (Nat.le_trans (Ex.size_kid (List.getElem_mem hlt)) hwt);have HIH:=ai (IH.o _ (List.getElem_mem hlt));have HST:=ai (Ex.deps_take hlt);generalize Ex.deps (q.kids.take k) =V at *;clear hrow;generalize q.kids[k] =x at *;go_wp2_with (go_at_call 86;refine(HIH.o _ (HXI.o.mono (belA _)) HWK.o).mono ?_;rintro r w2 ⟨rfl,hb2⟩;have HB2:=ai (bT (belA _) hb2);clear hb2)
   go_roundw
   case rel=>exact⟨k+1,by omega,by go_num,val_eq (by rw [HST.o];show max (V:Int) (x.dep:Int) = ((max V x.dep:Nat) :Int);omega),bT HBW.o HB2.o⟩
   case measure=>simp [intOf];omega
  ·have hlti: ¬(k:Int) <q.kids.length:=by omega
   have HE:=ai (show q.dep=Ex.deps (q.kids.take k) +1 by rw [show k=q.kids.length by omega,List.take_length,Ex.dep_eq])
   have hsm: (Ex.deps (q.kids.take k)) +1≤1000000:=by rw [←HE.o];exact HDL.o
   go_wp2;go_ret
   refine⟨ret1 ?_,(belA _).trans (HBW.o.mono (by simp))⟩
   rw [HE.o];omega
theorem redep_any {w0:World} {q:Ex} (h0:q.In w0) : ∀(w:World),q.In w→q.size≤1000000→
  Calls Tryd.prog 88 #[.agg #[.int .i64 q.op,.int .i64 q.typ,.int .i64 q.num,.string q.text,.int .i64 q.col,.slice q.kh.ao q.kids.length q.kh.cap]] w fun r w'=>r = .returned (.int .i64 (q.dep:Nat))∧Below w.heap.size w w':=by
 induction h0 with
 | mk q _ _ _ ih=>
 intro w hin hwt;have IH:=ai ih;clear ih;have l1:=hin.row.len;have HDL:=ai (Nat.le_trans (Ex.dep_le q) hwt);have HIN:=ai (hin.mono (belA (.cells #[.int .i64 q.op,.int .i64 q.typ,.int .i64 q.num,.string q.text,.int .i64 q.col,.slice q.kh.ao q.kids.length q.kh.cap] 45)));clear hin
 go_enter Tryd.func88,Tryd.ntmps88;go_wp2;go_loopw [3,4] (fun v i wr=>∃k:Nat,k≤q.kids.length∧i = .int .i64 k∧v = .int .i64 ((Ex.deps (q.kids.take k) :Nat) :Int)∧Below (w.alloc (.cells #[.int .i64 q.op,.int .i64 q.typ,.int .i64 q.num,.string q.text,.int .i64 q.col,.slice q.kh.ao q.kids.length q.kh.cap] 45)).heap.size (w.alloc (.cells #[.int .i64 q.op,.int .i64 q.typ,.int .i64 q.num,.string q.text,.int .i64 q.col,.slice q.kh.ao q.kids.length q.kh.cap] 45)) wr) (fun _ i _=>q.kids.length - (intOf i).toNat)
 case atStart=>exact⟨0,Nat.zero_le _,rfl,val_eq (by simp [Ex.deps]),Below.refl _ _⟩
 case round=>
  obtain⟨k,hk,rfl,rfl,hbw⟩:=hrel;have HBW:=ai hbw;clear hbw;have x5:=box_cell HBW.o (j:=5) rfl
  by_cases hlt:k<q.kids.length
  ·have hlti: (k:Int) <q.kids.length:=by omega
   have hrow:=HIN.o.row.mono HBW.o;have hix:=hrow.ix hlt Tryd.underlying37 sz41;obtain⟨c0,c1,c2,c3,c4,c5⟩:=ex_at hrow hlt;have hbk:=hrow.blk hlt;have HXI:=ai ((HIN.o.kid _ (List.getElem_mem hlt)).mono HBW.o);have HWK:=ai (Nat.le_trans (Ex.size_kid (List.getElem_mem hlt)) hwt);have HIH:=ai (IH.o _ (List.getElem_mem hlt));have HST:=ai (Ex.deps_take hlt);generalize Ex.deps (q.kids.take k) =V at *;clear hrow;generalize q.kids[k] =x at *;go_wp2_with (go_at_call 88;refine(HIH.o _ HXI.o HWK.o).mono ?_;rintro r w2 ⟨rfl,hb2⟩;have HB2:=ai hb2;clear hb2)
   go_roundw
   case rel=>exact⟨k+1,by omega,by go_num,val_eq (by rw [HST.o];show max (V:Int) (x.dep:Int) = ((max V x.dep:Nat) :Int);omega),bT HBW.o HB2.o⟩
   case measure=>simp [intOf];omega
  ·have hlti: ¬(k:Int) <q.kids.length:=by omega
   have HE:=ai (show q.dep=Ex.deps (q.kids.take k) +1 by rw [show k=q.kids.length by omega,List.take_length,Ex.dep_eq])
   have hsm: (Ex.deps (q.kids.take k)) +1≤1000000:=by rw [←HE.o];exact HDL.o
   go_wp2;go_ret
   refine⟨ret1 ?_,(belA _).trans (HBW.o.mono (by simp))⟩
   rw [HE.o];omega
noncomputable def Ex.typ2 (ts:List Int) (e:Ex) :Int×Int:=if 200<e.size then (0,8) else if 24<e.dep then (0,13) else e.ty ts
theorem etype_any {w0:World} {e:Ex} (h0:e.In w0) (ts:IL) (w:World) (hts:ts.In w) (hin:e.In w) (hf:OpsAt w) (hsz:e.size≤1000000) :
  Calls Tryd.prog 49 #[.slice ts.h.ao ts.l.length ts.h.cap,.agg #[.int .i64 e.op,.int .i64 e.typ,.int .i64 e.num,.string e.text,.int .i64 e.col,.slice e.kh.ao e.kids.length e.kh.cap]] w fun r w'=>r = .returned (.tuple #[.int .i64 (e.typ2 ts.l).1,.int .i64 (e.typ2 ts.l).2])∧Below w.heap.size w w':=by
 have HB0:=ai (belA (w:=w) (.cells #[.int .i64 e.op,.int .i64 e.typ,.int .i64 e.num,.string e.text,.int .i64 e.col,.slice e.kh.ao e.kids.length e.kh.cap] 45))
 have HSZ:=ai (show wrap64 (e.size:Int) =e.size from wrap_small (by omega))
 have HE0:=ai h0;have HTS:=ai (hts.mono HB0.o);have HIN:=ai (hin.mono HB0.o);have HF:=ai (hf.mono HB0.o);have hdl:=Ex.dep_le e;clear hts hin hf;by_cases h200:200<e.size
 ·have h200': (200:Int) < (e.size:Int):=by omega
  have HR:=ai (show e.typ2 ts.l= (0,8) by unfold Ex.typ2;rw [if_pos h200])
  go_enter Tryd.func49,Tryd.ntmps49;go_wp2_with (go_at_call 59;refine(esize_any HE0.o _ HIN.o).mono ?_;rintro r w1 ⟨rfl,hb1⟩;rw [HSZ.o];have HB1:=ai hb1;clear hb1)
  go_ret2
  exact⟨ret_tt HR.o.symm,bel1 HB1.o⟩
 have h200': ¬(200:Int) < (e.size:Int):=by omega
 by_cases h24:24<e.dep
 ·have h24': (24:Int) < (e.dep:Int):=by omega
  have HR:=ai (show e.typ2 ts.l= (0,13) by unfold Ex.typ2;rw [if_neg h200,if_pos h24])
  go_enter Tryd.func49,Tryd.ntmps49;go_wp2_with (first
   | (go_at_call 59;refine(esize_any HE0.o _ HIN.o).mono ?_;rintro r w1 ⟨rfl,hb1⟩;rw [HSZ.o];have HB1:=ai hb1;have y0:=box_cell HB1.o (j:=0) rfl;have y1:=box_cell HB1.o (j:=1) rfl;have y2:=box_cell HB1.o (j:=2) rfl;have y3:=box_cell HB1.o (j:=3) rfl;have y4:=box_cell HB1.o (j:=4) rfl;have y5:=box_cell HB1.o (j:=5) rfl;clear hb1)
   | (go_at_call 86;refine(edep_any HE0.o _ (HIN.o.mono HB1.o) hsz).mono ?_;rintro r w2 ⟨rfl,hb2⟩;have HB2:=ai (bT HB1.o hb2);clear hb2))
  go_ret2
  exact⟨ret_tt HR.o.symm,bel1 HB2.o⟩
 ·have h24': ¬(24:Int) < (e.dep:Int):=by omega
  have HR:=ai (show e.typ2 ts.l=e.ty ts.l by unfold Ex.typ2;rw [if_neg h200,if_neg h24])
  go_enter Tryd.func49,Tryd.ntmps49;go_wp2_with (first
   | (go_at_call 59;refine(esize_any HE0.o _ HIN.o).mono ?_;rintro r w1 ⟨rfl,hb1⟩;rw [HSZ.o];have HB1:=ai hb1;have y0:=box_cell HB1.o (j:=0) rfl;have y1:=box_cell HB1.o (j:=1) rfl;have y2:=box_cell HB1.o (j:=2) rfl;have y3:=box_cell HB1.o (j:=3) rfl;have y4:=box_cell HB1.o (j:=4) rfl;have y5:=box_cell HB1.o (j:=5) rfl;clear hb1)
   | (go_at_call 86;refine(edep_any HE0.o _ (HIN.o.mono HB1.o) hsz).mono ?_;rintro r w2 ⟨rfl,hb2⟩;have HB2:=ai (bT HB1.o hb2);clear hb2;clear y0 y1 y2 y3 y4 y5;have z0:=box_cell HB2.o (j:=0) rfl;have z1:=box_cell HB2.o (j:=1) rfl;have z2:=box_cell HB2.o (j:=2) rfl;have z3:=box_cell HB2.o (j:=3) rfl;have z4:=box_cell HB2.o (j:=4) rfl;have z5:=box_cell HB2.o (j:=5) rfl)
   | (go_at_call 87;refine(etyp_any HE0.o ts _ (HTS.o.mono HB2.o) (HIN.o.mono HB2.o) (HF.o.mono HB2.o) hsz).mono ?_;rintro r w3 ⟨rfl,hb3⟩;rw [←HR.o];have HB3:=ai (bT HB2.o hb3);clear hb3))
  go_ret2
  exact⟨rfl,bel1 HB3.o⟩
end Go.Proofs.YtogalchclmmfgaaDoor

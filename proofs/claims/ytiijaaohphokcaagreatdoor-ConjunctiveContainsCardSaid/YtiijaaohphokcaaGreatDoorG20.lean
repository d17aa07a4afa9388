/- conjunctive.numbered: what stands in the world while it runs. -/
import Derived.Test.YtiijaaohphokcaaGreatDoorG19
import Derived.RangeFuncBox
set_option maxRecDepth 100000
set_option maxHeartbeats 16000000
namespace Go.Proofs.YtiijaaohphokcaaGreatDoor
open Go.RowKit Go.Maps
theorem row_row {α:Type} {w w':World} {size:Nat} {row:Option Nat} {cells:α→List Value} {h:Hd} {xs:List α} (hr:Row w size cells h xs) (hg:w.grownBy w' row) (hne:some h.b≠row) :Row w' size cells h xs:=by
 obtain⟨h1,h2,h3,h4⟩:=hr;refine⟨h1,h2,fun hp=>⟨(h3 hp).1,Nat.lt_of_lt_of_le (h3 hp).2 hg.size⟩,fun i hi j v hv=> ?_⟩
 have hp:0<xs.length:=by omega
 rw [World.cell?_of_block (w:=w) (a:=⟨h.b,_,none⟩) (hg.block h.b (h3 hp).2 hne)]
 exact h4 i hi j v hv
structure SlAt (w:World) (x:World) (l:TL) :Prop where
 row:Row x 4 Tm.cells l.h l.l
 ty:TyAt x l.h.b 83
 ge:w.heap.size≤l.h.b
theorem SlAt.grown {w x y:World} {l:TL} {row:Option Nat} (h:SlAt w x l) (hg:x.grownBy y row) (hne:some l.h.b≠row) :SlAt w y l:=⟨row_row h.row hg hne,h.ty.grown hg hne,h.ge⟩
structure NuW (w:World) (q:Cq) (ob nb mb k:Nat) (outs:List Li) (lv:Value) (o:List Nat) (x:World) :Prop where
 bel:Below w.heap.size w x
 bq:Box x w.heap.size (qcells q) 32
 br:Box x (w.heap.size+1) #[.int .i64 0,.slice none 0 0,.slice none 0 0] 32
 bn:Box x nb #[.map (some mb)] 137
 nm:NM x mb o
 bo:Box x ob #[.int .i64 0,lv,.slice none 0 0] 32
 own:x.ownsRow (w.heap.size+2) 56 2 lv k (outs.flatMap Li.cells)
 sl: ∀l∈outs,SlAt w x l.sl
 lo:w.heap.size+2≤ob∧w.heap.size+2≤nb∧w.heap.size+2≤mb
section
variable {w x y:World} {q:Cq} {ob nb mb k:Nat} {outs:List Li} {lv:Value} {o o':List Nat}
theorem NuW.lv_ne (h:NuW w q ob nb mb k outs lv o x) {b:Nat} {T:TypeId} (ht:TyAt x b T) (hne:56≠T) :lv.ownBlock≠some b:=fun e=>(TyAt.own h.own e).ne ht hne rfl
theorem NuW.lv_mb (h:NuW w q ob nb mb k outs lv o x) :lv.ownBlock≠some mb:=fun e=>(TyAt.own h.own e).map h.nm rfl
theorem NuW.turn (h:NuW w q ob nb mb k outs lv o x) (hg:x.grownBy y (some mb)) (hm:NM y mb o') :NuW w q ob nb mb k outs lv o' y:=by
 have hl:=h.lo;have hs: ∀ {b:Nat} {T:TypeId},TyAt x b T→some b≠some mb:=fun ht e=>by injection e with e;exact ht.map h.nm e
 exact⟨h.bel.grown hg h.bel.size (fun j e=>by injection e with e;omega),h.bq.grown hg (hs (.box h.bq)),h.br.grown hg (hs (.box h.br)),h.bn.grown hg (hs (.box h.bn)),hm,h.bo.grown hg (hs (.box h.bo)),h.own.kept hg (.inr h.lv_mb),fun l hl=>(h.sl l hl).grown hg (hs (h.sl l hl).ty),h.lo⟩
theorem NuW.call (h:NuW w q ob nb mb k outs lv o x) (hb:Below x.heap.size x y) :NuW w q ob nb mb k outs lv o y:=h.turn (only_below hb _) (h.nm.below hb)
theorem NuW.app (h:NuW w q ob nb mb k outs lv o x) {l:Li} {v2:Value} (hl:SlAt w x l.sl) (hg:x.grownBy y lv.ownBlock) (hown:y.ownsRow (w.heap.size+2) 56 2 v2 (k+1) (outs.flatMap Li.cells ++ Li.cells l)) :
  NuW w q ob nb mb (k+1) (outs ++ [l]) v2 o (y.setCell ⟨ob,1,none⟩ v2):=by
 have hlo:=h.lo;have hs: ∀ {b:Nat} {T:TypeId},TyAt x b T→56≠T→some b≠lv.ownBlock:=fun ht hne e=>h.lv_ne ht hne e.symm
 have hbo:=h.bo.grown hg (hs (.box h.bo) (by decide))
 have hg2:=gb_set y ob 1 v2;have hbel:Below w.heap.size w y:=h.bel.grown hg h.bel.size (fun j e=>by have:=(h.own.lt j e).1;omega)
 have hnm:NM y mb o:=h.nm.grown hg (fun e=>h.lv_mb e.symm)
 have hso: ∀ {b:Nat} {T:TypeId},TyAt y b T→32≠T→some b≠some ob:=fun ht hne e=>by injection e with e;exact(TyAt.box hbo).ne ht hne e.symm
 have hsl: ∀a,SlAt w x a→SlAt w (y.setCell ⟨ob,1,none⟩ v2) a:=fun a ha=>by
  have h1:=ha.grown hg (hs ha.ty (by decide))
  exact h1.grown hg2 (hso h1.ty (by decide))
 have hbn:=h.bn.grown hg (hs (.box h.bn) (by decide))
 refine⟨hbel.grown hg2 hbel.size (fun j e=>by injection e with e;omega),(h.bq.grown hg (hs (.box h.bq) (by decide))).grown hg2 (by intro e;injection e with e;omega),(h.br.grown hg (hs (.box h.br) (by decide))).grown hg2 (by intro e;injection e with e;omega),hbn.grown hg2 (hso (.box hbn) (by decide)),hnm.grown hg2 (by intro e;injection e with e;exact(TyAt.box hbo).map hnm e.symm),?_,?_,fun a ha=> ?_,h.lo⟩
 ·have:=hbo.set 1 v2
  simpa only [List.setIfInBounds_toArray,List.set_cons_zero,List.set_cons_succ]using this
 ·have h2:=hown.kept hg2 (.inr (fun e=>(TyAt.own hown e).ne (TyAt.box hbo) (by decide) rfl))
  rwa [List.flatMap_append,List.flatMap_cons,List.flatMap_nil,List.append_nil]
 ·rcases List.mem_append.1 ha with ha|ha
  ·exact hsl _ (h.sl a ha)
  ·rw [List.mem_singleton.1 ha];exact hsl _ hl
end
def OutsOk (q:Cq) (k:Nat) (outs:List Li) :Prop:=outs.length=k∧outs.map Li.lt= (q.cj.lits.take k).map (fun a=>(a.1,a.2.map (ren (occQ [] (q.cj.lits.take k)))))
theorem cj_at (q:Cq) {k:Nat} (hk:k<q.lits.length) (hk2:k<q.cj.lits.length) :q.cj.lits[k] = (q.lits[k]).lt:=List.getElem_map (f:=Li.lt) (l:=q.lits) (h:=by simpa using hk)
theorem occQ_take {q:Cq} {k:Nat} (hk:k<q.lits.length) :occQ [] (q.cj.lits.take (k+1)) =occL (occQ [] (q.cj.lits.take k)) (q.lits[k]).sl.l:=by
 have hk2:k<q.cj.lits.length:=by rw [show q.cj.lits.length=q.lits.length from List.length_map _];exact hk
 rw [List.take_succ_eq_append_getElem hk2]
 unfold occQ
 rw [List.foldl_append]
 show occL _ (q.cj.lits[k]).2=_
 rw [cj_at q hk hk2]
 rfl
theorem OutsOk.snoc {q:Cq} {k:Nat} {outs:List Li} (h:OutsOk q k outs) (hk:k<q.lits.length) {hd:Hd} : OutsOk q (k+1) (outs ++ [⟨(q.lits[k]).tab,⟨hd,(q.lits[k]).sl.l.map (ren (occL (occQ [] (q.cj.lits.take k)) (q.lits[k]).sl.l))⟩⟩]):=by
 have hk2:k<q.cj.lits.length:=by rw [show q.cj.lits.length=q.lits.length from List.length_map _];exact hk
 have he:q.cj.lits[k] = (q.lits[k]).lt:=cj_at q hk hk2;refine⟨by rw [List.length_append,h.1];rfl,?_⟩
 rw [List.map_append,h.2,occQ_take hk,List.take_succ_eq_append_getElem hk2,List.map_append,he];refine congr (congrArg _ (List.map_congr_left (fun a ha=> ?_))) rfl
 have:a.2.map (ren (occL (occQ [] (q.cj.lits.take k)) (q.lits[k]).sl.l)) =a.2.map (ren (occQ [] (q.cj.lits.take k))):=ren_pre (occL_pre _ _) (fun x hx=>occQ_mem _ _ _ ⟨a,ha,hx⟩)
 rw [this]
end Go.Proofs.YtiijaaohphokcaaGreatDoor
/- conjunctive.numbered: its regions that draw their order. -/
namespace Go.Proofs.YtiijaaohphokcaaGreatDoor
open Go.RowKit Go.Maps
noncomputable def nuBody:Code:=Tryz.f48.body.getD .skip
theorem two_one {a b:Value} (ha:a.oneCell'=true) (hb:b.oneCell'=true) : ∀u∈ [a,b],u.oneCell'=true:=fun u hu=>by
 simp only [List.mem_cons,List.not_mem_nil,or_false]at hu;rcases hu with rfl|rfl<;>assumption
theorem box_cells {x:World} {b:Nat} {cs:List Value} {T:TypeId} (h:Box x b cs.toArray T) : ∀j v,cs[j]? = some v→x.cell? ((⟨b,0,none⟩ :Addr).add j) =some v:=fun j v hv=>by
 have h:=h.cell (j:=j) (v:=v) (by simpa using hv)
 rcases Nat.eq_zero_or_pos j with rfl|hj
 ·exact h
 ·simpa [Addr.add,Nat.pos_iff_ne_zero.1 hj]using h
structure NuG (w:World) (q:Cq) (ob nb mb k:Nat) (outs:List Li) (lv:Value) (o o2:List Nat) (lb:Nat) (l:Li) (b:Bool) (x:World) :Prop where
 nu:NuW w q ob nb mb k outs lv (if b=true then o2 else o) x
 bx:Box x lb #[.int .i64 (l.tab:Nat),.slice l.sl.h.ao l.sl.l.length l.sl.h.cap] 56
section
variable {w x y:World} {q:Cq} {ob nb mb k lb:Nat} {outs:List Li} {lv:Value} {o o2:List Nat} {l:Li} {b:Bool}
theorem NuG.call (h:NuG w q ob nb mb k outs lv o o2 lb l b x) (hb:Below x.heap.size x y) :NuG w q ob nb mb k outs lv o o2 lb l b y:=⟨h.nu.call hb,h.bx.below hb⟩
theorem NuG.turn (h:NuG w q ob nb mb k outs lv o o2 lb l false x) (hg:x.grownBy y (some mb)) (hm:NM y mb o2) :NuG w q ob nb mb k outs lv o o2 lb l true y:=⟨h.nu.turn hg hm,h.bx.grown hg (by intro e;injection e with e;exact(TyAt.box h.bx).map h.nu.nm e)⟩
end
theorem nu_reg7 {w:World} {q:Cq} {ob nb mb k B lb:Nat} {outs:List Li} {lv:Value} {o o2:List Nat} {l:Li} {W:World} (hk:k≤1000) (HSL:Hid (∀x,Below w.heap.size w x→l.sl.In x B)) (HLP:Hid (0<l.sl.l.length∧l.sl.l.length≤1000)) (HOS:Hid (o.length≤100000)) (HO2:Hid (occL o l.sl.l=o2)) (HG0:Hid (NuG w q ob nb mb k outs lv o o2 lb l false W.drew)) {Q:Exit→Act→World→Prop} {c:Code} {u0 u1 u2 u3 u6 u8 u9 u10 u11 u12 u13 u14 u15 u16 u17 u18 u19 u20 u21 u22 u23 u24 u25 u26 u27 u28 u29 u30 u31 u32 u33 u34 u35 u36 u37 u38:Value} (hc:c=codeIn [1,1,1,1,0,1,4,5,1,1,0,4,1] nuBody) (hend: ∀(h7 h8:Hd) (b9:Nat) (h9:Hd) (g4 cap4:Nat) x,NuW w q ob nb mb (k+1) (outs ++ [⟨l.tab,⟨h9,(l.sl.l.map (ren o2))⟩⟩]) (.slice (some ⟨g4,0,none⟩) (k+1) cap4) o2 x→Q .normal { tmps:=(u0 :: u1 :: u2 :: u3 :: (.func (.func 88) #[] #[.pointer (some ⟨nb,0,none⟩)]) :: (.pointer (some ⟨ob,0,none⟩)) :: u6 :: (.pointer (some ⟨lb,0,none⟩)) :: u8 :: u9 :: u10 :: u11 :: u12 :: u13 :: u14 :: u15 :: u16 :: .pointer (some ⟨ob,1,none⟩) :: lv :: .pointer (some ⟨lb,0,none⟩) :: .int .i64 (l.tab:Nat) :: .func (.func 88) #[] #[.pointer (some ⟨nb,0,none⟩)] :: .pointer (some ⟨lb,1,none⟩) :: .slice l.sl.h.ao l.sl.l.length l.sl.h.cap :: .slice h7.ao l.sl.l.length h7.cap :: .agg #[.int .i64 (l.tab:Nat),.slice h8.ao l.sl.l.length h8.cap] :: .slice (some ⟨b9,0,none⟩) 1 1 :: .slice (some ⟨g4,0,none⟩) (k+1) cap4 :: .pointer (some ⟨ob,1,none⟩) :: u29 :: u30 :: u31 :: u32 :: u33 :: u34 :: u35 :: u36 :: u37 :: u38 :: []).toArray,defers:= [] } x) :Code.wp Tryz.prog c Q { tmps:=(u0 :: u1 :: u2 :: u3 :: (.func (.func 88) #[] #[.pointer (some ⟨nb,0,none⟩)]) :: (.pointer (some ⟨ob,0,none⟩)) :: u6 :: (.pointer (some ⟨lb,0,none⟩)) :: u8 :: u9 :: u10 :: u11 :: u12 :: u13 :: u14 :: u15 :: u16 :: u17 :: u18 :: u19 :: u20 :: u21 :: u22 :: u23 :: u24 :: u25 :: u26 :: u27 :: u28 :: u29 :: u30 :: u31 :: u32 :: u33 :: u34 :: u35 :: u36 :: u37 :: u38 :: []).toArray,defers:= [] } W:=by
 subst hc;conv=>enter [2];whnf
 refine wp_region_tailG (by kernel_rfl) (by kernel_rfl) 10 (by show 10<_;decide) (by kernel_rfl) (by kernel_rfl) (fun s:Nat→Value=>({ tmps:=(u0 :: u1 :: u2 :: u3 :: (.func (.func 88) #[] #[.pointer (some ⟨nb,0,none⟩)]) :: (.pointer (some ⟨ob,0,none⟩)) :: u6 :: (.pointer (some ⟨lb,0,none⟩)) :: u8 :: u9 :: u10 :: u11 :: u12 :: u13 :: u14 :: u15 :: u16 :: s 17 :: s 18 :: s 19 :: s 20 :: s 21 :: s 22 :: s 23 :: s 24 :: s 25 :: s 26 :: u27 :: u28 :: u29 :: u30 :: u31 :: u32 :: u33 :: u34 :: u35 :: u36 :: u37 :: u38 :: []).toArray,defers:= [] } : Act)) (fun k=>if k=17 then u17 else if k=18 then u18 else if k=19 then u19 else if k=20 then u20 else if k=21 then u21 else if k=22 then u22 else if k=23 then u23 else if k=24 then u24 else if k=25 then u25 else if k=26 then u26 else undef) rfl 7 (by decide) (fun x y=>x.grownBy y (some mb)) (NuG w q ob nb mb k outs lv o o2 lb l) ?g0 (fun i v x=>(i=7→∃h7,v = .slice h7.ao l.sl.l.length h7.cap∧SlAt w x ⟨h7,(l.sl.l.map (ren o2))⟩∧h7.b≠mb)∧(i=8→∃h8,v = .agg #[.int .i64 (l.tab:Nat),.slice h8.ao l.sl.l.length h8.cap]∧SlAt w x ⟨h8,(l.sl.l.map (ren o2))⟩∧h8.b≠mb)∧(i=9→∃b9 h9,v = .slice (some ⟨b9,0,none⟩) 1 1∧SlAt w x ⟨h9,(l.sl.l.map (ren o2))⟩∧h9.b≠mb∧Box x b9 #[.int .i64 (l.tab:Nat),.slice h9.ao l.sl.l.length h9.cap] 56∧b9≠mb)∧(i≠7→i≠8→i≠9→([.pointer (some ⟨ob,1,none⟩),lv,.pointer (some ⟨lb,0,none⟩),.int .i64 (l.tab:Nat),.func (.func 88) #[] #[.pointer (some ⟨nb,0,none⟩)],.pointer (some ⟨lb,1,none⟩),.slice l.sl.h.ao l.sl.l.length l.sl.h.cap,undef,undef,undef] :List Value)[i]? = some v)) (fun i v x y h hb=>⟨fun hi=>(by obtain⟨h7,h0,q0,q1⟩:=h.1 hi;exact⟨h7,h0,q0.grown hb (by intro e;injection e with e;exact q1 e),q1⟩),fun hi=>(by obtain⟨h8,h0,q0,q1⟩:=h.2.1 hi;exact⟨h8,h0,q0.grown hb (by intro e;injection e with e;exact q1 e),q1⟩),fun hi=>(by obtain⟨b9,h9,h0,q0,q1,q2,q3⟩:=h.2.2.1 hi;exact⟨b9,h9,h0,q0.grown hb (by intro e;injection e with e;exact q1 e),q1,q2.grown hb (by intro e;injection e with e;exact q3 e),q3⟩),h.2.2.2⟩) (fun i=>([17,18,19,20,21,22,23,24,25,26] :List Nat).getD i 0) ?inj ?step ?last
 case g0=>exact HG0.o
 case inj=>
  intro i j hi hj h;have hI:i=0∨i=1∨i=2∨i=3∨i=4∨i=5∨i=6∨i=7∨i=8∨i=9:=by omega
  have hJ:j=0∨j=1∨j=2∨j=3∨j=4∨j=5∨j=6∨j=7∨j=8∨j=9:=by omega
  rcases hI with rfl|rfl|rfl|rfl|rfl|rfl|rfl|rfl|rfl|rfl<;>rcases hJ with rfl|rfl|rfl|rfl|rfl|rfl|rfl|rfl|rfl|rfl<;>first|rfl| (exact absurd h (by decide))
 case last=>
  intro s x hv hgt;have HG:=ai hgt;clear hgt;have z0:s 17 = .pointer (some ⟨ob,1,none⟩):=by have h:=(hv 0 (by decide)).2.2.2 (by decide) (by decide) (by decide);injection h with h;exact h.symm
  have z1:s 18=lv:=by have h:=(hv 1 (by decide)).2.2.2 (by decide) (by decide) (by decide);injection h with h;exact h.symm
  have z2:s 19 = .pointer (some ⟨lb,0,none⟩):=by have h:=(hv 2 (by decide)).2.2.2 (by decide) (by decide) (by decide);injection h with h;exact h.symm
  have z3:s 20 = .int .i64 (l.tab:Nat):=by have h:=(hv 3 (by decide)).2.2.2 (by decide) (by decide) (by decide);injection h with h;exact h.symm
  have z4:s 21 = .func (.func 88) #[] #[.pointer (some ⟨nb,0,none⟩)]:=by have h:=(hv 4 (by decide)).2.2.2 (by decide) (by decide) (by decide);injection h with h;exact h.symm
  have z5:s 22 = .pointer (some ⟨lb,1,none⟩):=by have h:=(hv 5 (by decide)).2.2.2 (by decide) (by decide) (by decide);injection h with h;exact h.symm
  have z6:s 23 = .slice l.sl.h.ao l.sl.l.length l.sl.h.cap:=by have h:=(hv 6 (by decide)).2.2.2 (by decide) (by decide) (by decide);injection h with h;exact h.symm
  obtain⟨h7,hz7,hg7_0,hg7_1⟩:=(hv 7 (by decide)).1 rfl
  have z7:s 24 = .slice h7.ao l.sl.l.length h7.cap:=hz7;clear hz7;obtain⟨h8,hz8,hg8_0,hg8_1⟩:=(hv 8 (by decide)).2.1 rfl
  have z8:s 25 = .agg #[.int .i64 (l.tab:Nat),.slice h8.ao l.sl.l.length h8.cap]:=hz8;clear hz8;obtain⟨b9,h9,hz9,hg9_0,hg9_1,hg9_2,hg9_3⟩:=(hv 9 (by decide)).2.2.1 rfl
  have z9:s 26 = .slice (some ⟨b9,0,none⟩) 1 1:=hz9;clear hz9;clear hv;obtain⟨i0,hi,hz0,hz1,hz2⟩:=info_parts info_lit;have HNU:=ai HG.o.nu;rw [if_pos rfl]at HNU
  show Oper.wp _ _ _ _ _ _
  refine wp_append_own x _ _ 29 rfl (w.heap.size+2) 56 i0 (.agg #[.int .i64 0,.slice none 0 0]) 2 32 Tryz.underlying29 hi hz0 hz1 hz2 rfl (by decide) lv k _ (by show s 18=_;exact z1) HNU.o.own ⟨b9,0,none⟩ 1 1 [.int .i64 (l.tab:Nat),.slice h9.ao l.sl.l.length h9.cap] (by show s 26=_;exact z9) rfl (box_cells hg9_2) (two_one rfl rfl) (by unfold maxLen;omega) (by omega) (by have:=HNU.o.lo;have:=HNU.o.bo.lt;omega) ?_
  intro v2 y2 hown hgr _;obtain⟨g4,cap4,rfl⟩:=ownsRow_succ hown;have HBO:=ai (HNU.o.bo.grown hgr (fun e=>HNU.o.lv_ne (TyAt.box HNU.o.bo) (by decide) e.symm))
  have HS:=ai (HNU.o.app (l:=⟨l.tab,⟨h9,(l.sl.l.map (ren o2))⟩⟩) (v2:=.slice (some ⟨g4,0,none⟩) (k+1) cap4) hg9_0 hgr (by show World.ownsRow _ _ _ _ _ _ (_ ++ [.int .i64 (l.tab:Nat),.slice h9.ao (l.sl.l.map (ren o2)).length h9.cap]);rw [List.length_map];exact hown))
  have k1:=HBO.o.cell (j:=1) rfl
  have f1:=HBO.o.fr 1;clear hown hgr hi hz0 hz1 hz2 hg9_0 hg9_2
  show Oper.wp _ _ _ _ _ _
  refine opwp_K (fun K2 hK2=> ?_)
  go_simp
  refine hK2 _ _ ?_
  show Oper.wp _ _ _ _ _ _
  clear hK2;refine opwp_K (fun K3 hK3=> ?_)
  go_simp
  refine hK3 _ _ ?_
  have h:=hend h7 h8 b9 h9 g4 cap4 _ HS.o
  show Q _ _ _
  first|exact h| (simp only [z0,z1,z2,z3,z4,z5,z6,z7,z8,z9];exact h)
 case step=>
  intro i o s x hin ho he bb hgb hbf hbt;have HG:=ai hgb;clear hgb;have hcase:i=0∨i=1∨i=2∨i=3∨i=4∨i=5∨i=6∨i=7∨i=8∨i=9:=by omega
  rcases hcase with rfl|rfl|rfl|rfl|rfl|rfl|rfl|rfl|rfl|rfl
  ·injection ho with ho
   subst ho;clear he hbf hbt;refine opwp_K (fun K2 hK2=> ?_)
   go_simp
   exact hK2 _ _ ⟨(.pointer (some ⟨ob,1,none⟩)),(by first|rfl| (simp [List.getD];done)),World.grownBy.refl _ _,gIf_ne (G:=NuG w q ob nb mb k outs lv o o2 lb l) (by decide) HG.o,⟨fun h=>absurd h (by decide),fun h=>absurd h (by decide),fun h=>absurd h (by decide),fun _ _ _=>rfl⟩⟩
  ·injection ho with ho
   subst ho;have z0:s 17 = .pointer (some ⟨ob,1,none⟩):=by have h:=(he ⟨0,.data⟩ (by simp) rfl).2.2.2 (by decide) (by decide) (by decide);injection h with h;exact h.symm
   clear he hbf hbt;have hbo:=HG.o.nu.bo.cell (j:=1) rfl
   refine opwp_K (fun K2 hK2=> ?_)
   go_simp
   exact hK2 _ _ ⟨(lv),(by first|rfl| (simp [z0];done)),World.grownBy.refl _ _,gIf_ne (G:=NuG w q ob nb mb k outs lv o o2 lb l) (by decide) HG.o,⟨fun h=>absurd h (by decide),fun h=>absurd h (by decide),fun h=>absurd h (by decide),fun _ _ _=>rfl⟩⟩
  ·injection ho with ho
   subst ho;clear he hbf hbt;refine opwp_K (fun K2 hK2=> ?_)
   go_simp
   exact hK2 _ _ ⟨(.pointer (some ⟨lb,0,none⟩)),(by first|rfl| (simp [List.getD];done)),World.grownBy.refl _ _,gIf_ne (G:=NuG w q ob nb mb k outs lv o o2 lb l) (by decide) HG.o,⟨fun h=>absurd h (by decide),fun h=>absurd h (by decide),fun h=>absurd h (by decide),fun _ _ _=>rfl⟩⟩
  ·injection ho with ho
   subst ho;have z2:s 19 = .pointer (some ⟨lb,0,none⟩):=by have h:=(he ⟨2,.data⟩ (by simp) rfl).2.2.2 (by decide) (by decide) (by decide);injection h with h;exact h.symm
   clear he hbf hbt;have k0:=HG.o.bx.cell (j:=0) rfl
   have k1:=HG.o.bx.cell (j:=1) rfl
   refine opwp_K (fun K2 hK2=> ?_)
   go_simp
   exact hK2 _ _ ⟨(.int .i64 (l.tab:Nat)),(by first|rfl| (simp [z2];done)),World.grownBy.refl _ _,gIf_ne (G:=NuG w q ob nb mb k outs lv o o2 lb l) (by decide) HG.o,⟨fun h=>absurd h (by decide),fun h=>absurd h (by decide),fun h=>absurd h (by decide),fun _ _ _=>rfl⟩⟩
  ·injection ho with ho
   subst ho;clear he hbf hbt;refine opwp_K (fun K2 hK2=> ?_)
   go_simp
   exact hK2 _ _ ⟨(.func (.func 88) #[] #[.pointer (some ⟨nb,0,none⟩)]),(by first|rfl| (simp [List.getD];done)),World.grownBy.refl _ _,gIf_ne (G:=NuG w q ob nb mb k outs lv o o2 lb l) (by decide) HG.o,⟨fun h=>absurd h (by decide),fun h=>absurd h (by decide),fun h=>absurd h (by decide),fun _ _ _=>rfl⟩⟩
  ·injection ho with ho
   subst ho;clear he hbf hbt;refine opwp_K (fun K2 hK2=> ?_)
   go_simp
   exact hK2 _ _ ⟨(.pointer (some ⟨lb,1,none⟩)),(by first|rfl| (simp [List.getD];done)),World.grownBy.refl _ _,gIf_ne (G:=NuG w q ob nb mb k outs lv o o2 lb l) (by decide) HG.o,⟨fun h=>absurd h (by decide),fun h=>absurd h (by decide),fun h=>absurd h (by decide),fun _ _ _=>rfl⟩⟩
  ·injection ho with ho
   subst ho;have z5:s 22 = .pointer (some ⟨lb,1,none⟩):=by have h:=(he ⟨5,.data⟩ (by simp) rfl).2.2.2 (by decide) (by decide) (by decide);injection h with h;exact h.symm
   clear he hbf hbt;have k0:=HG.o.bx.cell (j:=0) rfl
   have k1:=HG.o.bx.cell (j:=1) rfl
   refine opwp_K (fun K2 hK2=> ?_)
   go_simp
   exact hK2 _ _ ⟨(.slice l.sl.h.ao l.sl.l.length l.sl.h.cap),(by first|rfl| (simp [z5];done)),World.grownBy.refl _ _,gIf_ne (G:=NuG w q ob nb mb k outs lv o o2 lb l) (by decide) HG.o,⟨fun h=>absurd h (by decide),fun h=>absurd h (by decide),fun h=>absurd h (by decide),fun _ _ _=>rfl⟩⟩
  ·injection ho with ho
   subst ho;have z4:s 21 = .func (.func 88) #[] #[.pointer (some ⟨nb,0,none⟩)]:=by have h:=(he ⟨4,.data⟩ (by simp) rfl).2.2.2 (by decide) (by decide) (by decide);injection h with h;exact h.symm
   have z6:s 23 = .slice l.sl.h.ao l.sl.l.length l.sl.h.cap:=by have h:=(he ⟨6,.data⟩ (by simp) rfl).2.2.2 (by decide) (by decide) (by decide);injection h with h;exact h.symm
   obtain rfl:bb=false:=hbf rfl;clear he hbf hbt;refine opwp_K (fun K2 hK2=> ?_)
   go_simp
   go_at_call 88
   refine(nclo_any l.sl B nb mb o x (HSL.o x HG.o.nu.bel) HLP.o.1 HLP.o.2 HOS.o (HG.o.nu.bn.cell (j:=0) rfl) HG.o.nu.nm).mono ?_
   rintro e y ⟨h,rfl,h1,h2,h3,h4,h5⟩
   go_simp
   have hr:Row y 4 Tm.cells h (l.sl.l.map (ren o2)):=by rw [←HO2.o];exact h1
   exact hK2 _ _ ⟨(_),(by first|rfl| (simp [z4,z6];done)),h5,gIf_eq (G:=NuG w q ob nb mb k outs lv o o2 lb l) (HG.o.turn h5 (by rw [←HO2.o];exact h4)),⟨fun _=>⟨h,rfl,⟨hr,h3,Nat.le_trans HG.o.nu.bel.size h2⟩,h3.map h4⟩,fun h=>absurd h (by decide),fun h=>absurd h (by decide),fun h _ _=>absurd rfl h⟩⟩
  ·injection ho with ho
   subst ho;have z3:s 20 = .int .i64 (l.tab:Nat):=by have h:=(he ⟨3,.data⟩ (by simp) rfl).2.2.2 (by decide) (by decide) (by decide);injection h with h;exact h.symm
   obtain⟨h7,hz7,hg7_0,hg7_1⟩:=(he ⟨7,.data⟩ (by simp) rfl).1 rfl
   have z7:s 24 = .slice h7.ao l.sl.l.length h7.cap:=hz7;clear hz7;obtain rfl:bb=true:=hbt ⟨⟨7,.data⟩,by simp,rfl,rfl⟩
   clear he hbf hbt;refine opwp_K (fun K2 hK2=> ?_)
   go_simp
   exact hK2 _ _ ⟨(_),(by first|rfl| (simp [z3,z7];done)),World.grownBy.refl _ _,gIf_ne (G:=NuG w q ob nb mb k outs lv o o2 lb l) (by decide) HG.o,⟨fun h=>absurd h (by decide),fun _=>⟨h7,rfl,hg7_0,hg7_1⟩,fun h=>absurd h (by decide),fun _ h _=>absurd rfl h⟩⟩
  ·injection ho with ho
   subst ho;obtain⟨h8,hz8,hg8_0,hg8_1⟩:=(he ⟨8,.data⟩ (by simp) rfl).2.1 rfl
   have z8:s 25 = .agg #[.int .i64 (l.tab:Nat),.slice h8.ao l.sl.l.length h8.cap]:=hz8;clear hz8;clear he hbf hbt;have HLT:=ai HG.o.nu.nm.lt;refine opwp_K (fun K2 hK2=> ?_)
   go_simp
   exact hK2 _ _ ⟨(_),(by first|rfl| (simp [z8];done)),only_below (belA _) _,gIf_ne (G:=NuG w q ob nb mb k outs lv o o2 lb l) (by decide) (HG.o.call (belA _)),⟨fun h=>absurd h (by decide),fun h=>absurd h (by decide),fun _=>⟨_,h8,rfl,hg8_0.grown (only_below (belA _) (some mb)) (by intro e;injection e with e;exact hg8_1 e),hg8_1,Box.new _ _ _,by have:=HLT.o;omega⟩,fun _ _ h=>absurd rfl h⟩⟩
structure NuH (w:World) (q:Cq) (ob nb mb k:Nat) (outs:List Li) (lv:Value) (o:List Nat) (b:Bool) (x:World) :Prop where
 nu:NuW w q ob nb mb k outs lv o x
theorem nu_reg9 {w:World} {q:Cq} {ob nb mb k B:Nat} {outs:List Li} {lv:Value} {o:List Nat} {W:World} (HSL:Hid (∀x,Below w.heap.size w x→q.head.In x B)) (HLP:Hid (0<q.head.l.length∧q.head.l.length≤1000)) (HOS:Hid (o.length≤100000)) (HO2:Hid (occL o q.head.l=o)) (HG0:Hid (NuH w q ob nb mb k outs lv o false W.drew)) {Q:Exit→Act→World→Prop} {c:Code} {u0 u2 u6 u7 u8 u9 u10 u11 u12 u13 u14 u15 u16 u17 u18 u19 u20 u21 u22 u23 u24 u25 u26 u27 u28 u29 u30 u31 u32 u33 u34 u35 u36 u37 u38:Value} (hc:c=codeIn [1,1,1,1,1,0] nuBody) (hend: ∀h3 x,NuW w q ob nb mb k outs lv o x→SlAt w x ⟨h3,(q.head.l.map (ren o))⟩→Q .normal { tmps:=(u0 :: (.pointer (some ⟨w.heap.size,0,none⟩)) :: u2 :: (.pointer (some ⟨nb,0,none⟩)) :: (.func (.func 88) #[] #[.pointer (some ⟨nb,0,none⟩)]) :: (.pointer (some ⟨ob,0,none⟩)) :: u6 :: u7 :: u8 :: u9 :: u10 :: u11 :: u12 :: u13 :: u14 :: u15 :: u16 :: u17 :: u18 :: u19 :: u20 :: u21 :: u22 :: u23 :: u24 :: u25 :: u26 :: u27 :: u28 :: u29 :: .func (.func 88) #[] #[.pointer (some ⟨nb,0,none⟩)] :: .pointer (some ⟨w.heap.size,2,none⟩) :: .slice q.head.h.ao q.head.l.length q.head.h.cap :: .slice h3.ao q.head.l.length h3.cap :: .map (some mb) :: .int .i64 (o.length:Nat) :: .pointer (some ⟨ob,2,none⟩) :: .pointer (some ⟨ob,0,none⟩) :: u38 :: []).toArray,defers:= [] } ((x.setCell ⟨ob,2,none⟩ (.slice h3.ao q.head.l.length h3.cap)).setCell ⟨ob,0,none⟩ (.int .i64 (o.length:Nat)))) :Code.wp Tryz.prog c Q { tmps:=(u0 :: (.pointer (some ⟨w.heap.size,0,none⟩)) :: u2 :: (.pointer (some ⟨nb,0,none⟩)) :: (.func (.func 88) #[] #[.pointer (some ⟨nb,0,none⟩)]) :: (.pointer (some ⟨ob,0,none⟩)) :: u6 :: u7 :: u8 :: u9 :: u10 :: u11 :: u12 :: u13 :: u14 :: u15 :: u16 :: u17 :: u18 :: u19 :: u20 :: u21 :: u22 :: u23 :: u24 :: u25 :: u26 :: u27 :: u28 :: u29 :: u30 :: u31 :: u32 :: u33 :: u34 :: u35 :: u36 :: u37 :: u38 :: []).toArray,defers:= [] } W:=by
 subst hc;conv=>enter [2];whnf
 refine wp_region_tailG (by kernel_rfl) (by kernel_rfl) 7 (by show 7<_;decide) (by kernel_rfl) (by kernel_rfl) (fun s:Nat→Value=>({ tmps:=(u0 :: (.pointer (some ⟨w.heap.size,0,none⟩)) :: u2 :: (.pointer (some ⟨nb,0,none⟩)) :: (.func (.func 88) #[] #[.pointer (some ⟨nb,0,none⟩)]) :: (.pointer (some ⟨ob,0,none⟩)) :: u6 :: u7 :: u8 :: u9 :: u10 :: u11 :: u12 :: u13 :: u14 :: u15 :: u16 :: u17 :: u18 :: u19 :: u20 :: u21 :: u22 :: u23 :: u24 :: u25 :: u26 :: u27 :: u28 :: u29 :: s 30 :: s 31 :: s 32 :: s 33 :: s 34 :: s 35 :: s 36 :: u37 :: u38 :: []).toArray,defers:= [] } : Act)) (fun k=>if k=30 then u30 else if k=31 then u31 else if k=32 then u32 else if k=33 then u33 else if k=34 then u34 else if k=35 then u35 else if k=36 then u36 else undef) rfl 3 (by decide) (fun x y=>x.grownBy y (some mb)) (NuH w q ob nb mb k outs lv o) ?g0 (fun i v x=>(i=3→∃h3,v = .slice h3.ao q.head.l.length h3.cap∧SlAt w x ⟨h3,(q.head.l.map (ren o))⟩∧h3.b≠mb)∧(i≠3→([.func (.func 88) #[] #[.pointer (some ⟨nb,0,none⟩)],.pointer (some ⟨w.heap.size,2,none⟩),.slice q.head.h.ao q.head.l.length q.head.h.cap,undef,.map (some mb),.int .i64 (o.length:Nat),.pointer (some ⟨ob,2,none⟩)] :List Value)[i]? = some v)) (fun i v x y h hb=>⟨fun hi=>(by obtain⟨h3,h0,q0,q1⟩:=h.1 hi;exact⟨h3,h0,q0.grown hb (by intro e;injection e with e;exact q1 e),q1⟩),h.2⟩) (fun i=>([30,31,32,33,34,35,36] :List Nat).getD i 0) ?inj ?step ?last
 case g0=>exact HG0.o
 case inj=>
  intro i j hi hj h;have hI:i=0∨i=1∨i=2∨i=3∨i=4∨i=5∨i=6:=by omega
  have hJ:j=0∨j=1∨j=2∨j=3∨j=4∨j=5∨j=6:=by omega
  rcases hI with rfl|rfl|rfl|rfl|rfl|rfl|rfl<;>rcases hJ with rfl|rfl|rfl|rfl|rfl|rfl|rfl<;>first|rfl| (exact absurd h (by decide))
 case last=>
  intro s x hv hgt;have HG:=ai hgt;clear hgt;have z0:s 30 = .func (.func 88) #[] #[.pointer (some ⟨nb,0,none⟩)]:=by have h:=(hv 0 (by decide)).2 (by decide);injection h with h;exact h.symm
  have z1:s 31 = .pointer (some ⟨w.heap.size,2,none⟩):=by have h:=(hv 1 (by decide)).2 (by decide);injection h with h;exact h.symm
  have z2:s 32 = .slice q.head.h.ao q.head.l.length q.head.h.cap:=by have h:=(hv 2 (by decide)).2 (by decide);injection h with h;exact h.symm
  obtain⟨h3,hz3,hg3_0,hg3_1⟩:=(hv 3 (by decide)).1 rfl
  have z3:s 33 = .slice h3.ao q.head.l.length h3.cap:=hz3;clear hz3;have z4:s 34 = .map (some mb):=by have h:=(hv 4 (by decide)).2 (by decide);injection h with h;exact h.symm
  have z5:s 35 = .int .i64 (o.length:Nat):=by have h:=(hv 5 (by decide)).2 (by decide);injection h with h;exact h.symm
  have z6:s 36 = .pointer (some ⟨ob,2,none⟩):=by have h:=(hv 6 (by decide)).2 (by decide);injection h with h;exact h.symm
  clear hv;have HNU:=ai HG.o.nu;have k2:=HNU.o.bo.cell (j:=2) rfl
  have k0:=HNU.o.bo.cell (j:=0) rfl
  have f2:=HNU.o.bo.fr 2;have f0:=HNU.o.bo.fr 0;have HS:=ai hg3_0;clear hg3_0
  show Oper.wp _ _ _ _ _ _
  refine opwp_K (fun K2 hK2=> ?_)
  go_simp
  refine hK2 _ _ ?_
  clear hK2
  show Oper.wp _ _ _ _ _ _
  refine opwp_K (fun K4 hK4=> ?_)
  go_simp
  refine hK4 _ _ ?_
  clear hK4
  show Oper.wp _ _ _ _ _ _
  refine opwp_K (fun K5 hK5=> ?_)
  go_simp
  refine hK5 _ _ ?_
  have h:=hend h3 x HNU.o HS.o
  show Q _ _ _
  first|exact h| (simp only [z0,z1,z2,z3,z4,z5,z6];exact h)
 case step=>
  intro i o s x hin ho he bb hgb hbf hbt;have HG:=ai hgb;clear hgb;have hcase:i=0∨i=1∨i=2∨i=3∨i=4∨i=5∨i=6:=by omega
  rcases hcase with rfl|rfl|rfl|rfl|rfl|rfl|rfl
  ·injection ho with ho
   subst ho;clear he hbf hbt;refine opwp_K (fun K2 hK2=> ?_)
   go_simp
   exact hK2 _ _ ⟨(.func (.func 88) #[] #[.pointer (some ⟨nb,0,none⟩)]),(by first|rfl| (simp [List.getD];done)),World.grownBy.refl _ _,gIf_ne (G:=NuH w q ob nb mb k outs lv o) (by decide) HG.o,⟨fun h=>absurd h (by decide),fun _=>rfl⟩⟩
  ·injection ho with ho
   subst ho;clear he hbf hbt;refine opwp_K (fun K2 hK2=> ?_)
   go_simp
   exact hK2 _ _ ⟨(.pointer (some ⟨w.heap.size,2,none⟩)),(by first|rfl| (simp [List.getD];done)),World.grownBy.refl _ _,gIf_ne (G:=NuH w q ob nb mb k outs lv o) (by decide) HG.o,⟨fun h=>absurd h (by decide),fun _=>rfl⟩⟩
  ·injection ho with ho
   subst ho;have z1:s 31 = .pointer (some ⟨w.heap.size,2,none⟩):=by have h:=(he ⟨1,.data⟩ (by simp) rfl).2 (by decide);injection h with h;exact h.symm
   clear he hbf hbt;have hbo:=HG.o.nu.bq.cell (j:=2) rfl
   refine opwp_K (fun K2 hK2=> ?_)
   go_simp
   exact hK2 _ _ ⟨(.slice q.head.h.ao q.head.l.length q.head.h.cap),(by first|rfl| (simp [z1];done)),World.grownBy.refl _ _,gIf_ne (G:=NuH w q ob nb mb k outs lv o) (by decide) HG.o,⟨fun h=>absurd h (by decide),fun _=>rfl⟩⟩
  ·injection ho with ho
   subst ho;have z0:s 30 = .func (.func 88) #[] #[.pointer (some ⟨nb,0,none⟩)]:=by have h:=(he ⟨0,.data⟩ (by simp) rfl).2 (by decide);injection h with h;exact h.symm
   have z2:s 32 = .slice q.head.h.ao q.head.l.length q.head.h.cap:=by have h:=(he ⟨2,.data⟩ (by simp) rfl).2 (by decide);injection h with h;exact h.symm
   obtain rfl:bb=false:=hbf rfl;clear he hbf hbt;refine opwp_K (fun K2 hK2=> ?_)
   go_simp
   go_at_call 88
   refine(nclo_any q.head B nb mb o x (HSL.o x HG.o.nu.bel) HLP.o.1 HLP.o.2 HOS.o (HG.o.nu.bn.cell (j:=0) rfl) HG.o.nu.nm).mono ?_
   rintro e y ⟨h,rfl,h1,h2,h3,h4,h5⟩
   go_simp
   rw [HO2.o]at h1 h4;exact hK2 _ _ ⟨(_),(by first|rfl| (simp [z0,z2];done)),h5,gIf_eq (G:=NuH w q ob nb mb k outs lv o) (⟨HG.o.nu.turn h5 h4⟩),⟨fun _=>⟨h,rfl,⟨h1,h3,Nat.le_trans HG.o.nu.bel.size h2⟩,h3.map h4⟩,fun h=>absurd rfl h⟩⟩
  ·injection ho with ho
   subst ho;clear he hbf hbt;have hbn:=HG.o.nu.bn.cell (j:=0) rfl
   refine opwp_K (fun K2 hK2=> ?_)
   go_simp
   exact hK2 _ _ ⟨(.map (some mb)),(by first|rfl| (simp [List.getD];done)),World.grownBy.refl _ _,gIf_ne (G:=NuH w q ob nb mb k outs lv o) (by decide) HG.o,⟨fun h=>absurd h (by decide),fun _=>rfl⟩⟩
  ·injection ho with ho
   subst ho;have z4:s 34 = .map (some mb):=by have h:=(he ⟨4,.data⟩ (by simp) rfl).2 (by decide);injection h with h;exact h.symm
   obtain⟨h3,hz3,hg3_0,hg3_1⟩:=(he ⟨3,.chain⟩ (by simp) rfl).1 rfl
   have z3:s 33 = .slice h3.ao q.head.l.length h3.cap:=hz3;clear hz3;obtain rfl:bb=true:=hbt ⟨⟨3,.chain⟩,by simp,rfl,rfl⟩
   clear he hbf hbt;have hl:=HG.o.nu.nm.len;refine opwp_K (fun K2 hK2=> ?_)
   go_simp
   exact hK2 _ _ ⟨(.int .i64 (o.length:Nat)),(by first|rfl| (simp [z4,z3];done)),World.grownBy.refl _ _,gIf_ne (G:=NuH w q ob nb mb k outs lv o) (by decide) HG.o,⟨fun h=>absurd h (by decide),fun _=>rfl⟩⟩
  ·injection ho with ho
   subst ho;clear he hbf hbt;refine opwp_K (fun K2 hK2=> ?_)
   go_simp
   exact hK2 _ _ ⟨(.pointer (some ⟨ob,2,none⟩)),(by first|rfl| (simp [List.getD];done)),World.grownBy.refl _ _,gIf_ne (G:=NuH w q ob nb mb k outs lv o) (by decide) HG.o,⟨fun h=>absurd h (by decide),fun _=>rfl⟩⟩
end Go.Proofs.YtiijaaohphokcaaGreatDoor

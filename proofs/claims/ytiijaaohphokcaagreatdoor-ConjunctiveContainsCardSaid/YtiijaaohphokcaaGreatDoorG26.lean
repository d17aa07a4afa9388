/- querylabfield.Conjunctive: its head's regions that draw their order. -/
import Derived.Test.YtiijaaohphokcaaGreatDoorG25
set_option maxRecDepth 100000
set_option maxHeartbeats 16000000
namespace Go.Proofs.YtiijaaohphokcaaGreatDoor
open Go.RowKit
structure HP (w:World) (s:Sch) (b:Nat) (L:IL) (a:Nat) (ts:List Int) (lv:Value) (lits:List Li) (ql:Value) (B1:Nat) (cur:List (Tm V)) (cl:Value) (nv:Nat) (z:World) :Prop where
 cb:CB w s b L a ts lv lits ql B1 cur cl z
 bq:Box z (w.heap.size+1+1) #[.int .i64 (nv:Nat),ql,cl] 32
 sz:B1≤z.heap.size
section
variable {w z y:World} {s:Sch} {b a a' B1 nv:Nat} {L:IL} {ts ts':List Int} {lv lv' ql cl:Value} {lits:List Li} {cur:List (Tm V)}
theorem HP.below (h:HP w s b L a ts lv lits ql B1 cur cl nv z) (hb:Below z.heap.size z y) :HP w s b L a ts lv lits ql B1 cur cl nv y:=⟨h.cb.below hb,h.bq.below hb,Nat.le_trans h.sz hb.size⟩
theorem HP.tape (h:HP w s b L a ts lv lits ql B1 cur cl nv z) (hg:z.grownBy y (some b)) (ht:TapeIn y b L a') :HP w s b L a' ts lv lits ql B1 cur cl nv y:=⟨h.cb.tape hg ht,h.bq.grown hg (by have:=h.cb.bw;intro e;injection e with e;omega),Nat.le_trans h.sz hg.size⟩
theorem HP.app {t:Tm V} {v2:Value} (h:HP w s b L a ts lv lits ql B1 cur cl nv z) (hg:z.grownBy y cl.ownBlock) (ho:y.ownsRow B1 83 4 v2 (cur.length+1) (cur.flatMap Tm.cells ++ Tm.cells t)) :HP w s b L a ts lv lits ql B1 (cur ++ [t]) v2 nv (y.setCell ⟨w.heap.size+1+1,2,none⟩ v2)∧Box y (w.heap.size+1+1) #[.int .i64 (nv:Nat),ql,cl] 32:=by
 have hbq:=h.bq.grown hg (fun e=>h.cb.cl_ne (TyAt.box h.bq) (by decide) e.symm)
 have hcb:=h.cb.app (t:=t) hg ho
 refine⟨⟨hcb.storeT (by omega) (by omega) (TyAt.box hbq) (hcb.ql_ne (TyAt.box hbq) (by decide)) (by decide) (by decide) 2 v2,?_,Nat.le_trans h.sz (Nat.le_trans hg.size (gb_set _ _ _ _).size)⟩,hbq⟩
 have:=hbq.set 2 v2
 simpa only [List.setIfInBounds_toArray,List.set_cons_zero,List.set_cons_succ]using this
end
structure HGr (w:World) (s:Sch) (b:Nat) (L:IL) (a:Nat) (ts:List Int) (lv:Value) (lits:List Li) (ql:Value) (B1:Nat) (cur:List (Tm V)) (cl:Value) (nv:Nat) (bb:Bool) (x:World) :Prop where
 hp:HP w s b L (if bb=true then posAt L a else a) ts lv lits ql B1 cur cl nv x
theorem HGr.below {w x y:World} {s:Sch} {b a B1 nv:Nat} {L:IL} {ts:List Int} {lv ql cl:Value} {lits:List Li} {cur:List (Tm V)} {bb:Bool} (h:HGr w s b L a ts lv lits ql B1 cur cl nv bb x) (hb:Below x.heap.size x y) :HGr w s b L a ts lv lits ql B1 cur cl nv bb y:=⟨h.hp.below hb⟩
theorem cj_reg18 {w:World} {sc:Sch} {b a B1 nv:Nat} {L:IL} {ts:List Int} {lv ql cl:Value} {lits:List Li} {cur:List (Tm V)} {W:World} (HA:Hid (a≤4611686018427387000)) (HCU:Hid (cur.length≤1000)) (HB1:Hid (∀a2 x,HP w sc b L a2 ts lv lits ql B1 cur cl nv x→B1≤x.heap.size)) (HG0:Hid (HGr w sc b L a ts lv lits ql B1 cur cl nv false W.drew)) {m:Int} (HM:Hid (nAt L a 3=m)) {Q:Exit→Act→World→Prop} {c:Code} {u1 u2 u3 u4 u5 u6 u9 u10 u11 u12 u13 u14 u15 u16 u17 u18 u19 u20 u21 u22 u23 u24 u25 u26 u27 u28 u29 u30 u31 u32 u33 u34 u35 u36 u37 u38 u39 u40 u41 u42 u43 u44 u45 u46 u47 u48 u49 u50 u51 u52 u53 u54 u55 u56 u57 u58 u59 u60 u61 u62 u63 u64 u65 u66 u67 u68 u69 u70 u71 u72 u73 u74 u75 u76 u77 u78 u79 u80 u81 u82 u83 u84 u85 u86 u87 u88 u89 u90 u91:Value} (hc:c=codeIn [1,1,1,1,1,0,1,4,5,1,0,4,1,2] cjBody) (hend: ∀(b6 g4 cap4:Nat) x,HP w sc b L (posAt L a) ts lv lits ql B1 (cur ++ [.c ⟨1,m,⟨#[]⟩⟩]) (.slice (some ⟨g4,0,none⟩) (cur.length+1) cap4) nv x→Q .normal { tmps:=((.pointer (some ⟨b,0,none⟩)) :: u1 :: u2 :: u3 :: u4 :: u5 :: u6 :: (.pointer (some ⟨w.heap.size+1+1,0,none⟩)) :: (.pointer (some ⟨w.heap.size+1+1+1,0,none⟩)) :: u9 :: u10 :: u11 :: u12 :: u13 :: u14 :: u15 :: u16 :: u17 :: u18 :: u19 :: u20 :: u21 :: u22 :: u23 :: u24 :: u25 :: u26 :: u27 :: u28 :: u29 :: u30 :: u31 :: u32 :: u33 :: u34 :: u35 :: u36 :: u37 :: u38 :: u39 :: u40 :: u41 :: u42 :: u43 :: u44 :: u45 :: u46 :: u47 :: u48 :: u49 :: u50 :: u51 :: u52 :: u53 :: u54 :: u55 :: u56 :: u57 :: u58 :: u59 :: u60 :: u61 :: u62 :: u63 :: u64 :: u65 :: u66 :: u67 :: u68 :: u69 :: u70 :: u71 :: .pointer (some ⟨w.heap.size+1+1,2,none⟩) :: cl :: .pointer (some ⟨b,0,none⟩) :: .int .i64 m :: .agg #[.int .i64 1,.int .i64 m,.string ⟨#[]⟩] :: .agg #[.int .i64 (-1),.int .i64 1,.int .i64 m,.string ⟨#[]⟩] :: .slice (some ⟨b6,0,none⟩) 1 1 :: .slice (some ⟨g4,0,none⟩) (cur.length+1) cap4 :: .pointer (some ⟨w.heap.size+1+1,2,none⟩) :: u81 :: u82 :: u83 :: u84 :: u85 :: u86 :: u87 :: u88 :: u89 :: u90 :: u91 :: []).toArray,defers:= [] } x) :Code.wp Tryz.prog c Q { tmps:=((.pointer (some ⟨b,0,none⟩)) :: u1 :: u2 :: u3 :: u4 :: u5 :: u6 :: (.pointer (some ⟨w.heap.size+1+1,0,none⟩)) :: (.pointer (some ⟨w.heap.size+1+1+1,0,none⟩)) :: u9 :: u10 :: u11 :: u12 :: u13 :: u14 :: u15 :: u16 :: u17 :: u18 :: u19 :: u20 :: u21 :: u22 :: u23 :: u24 :: u25 :: u26 :: u27 :: u28 :: u29 :: u30 :: u31 :: u32 :: u33 :: u34 :: u35 :: u36 :: u37 :: u38 :: u39 :: u40 :: u41 :: u42 :: u43 :: u44 :: u45 :: u46 :: u47 :: u48 :: u49 :: u50 :: u51 :: u52 :: u53 :: u54 :: u55 :: u56 :: u57 :: u58 :: u59 :: u60 :: u61 :: u62 :: u63 :: u64 :: u65 :: u66 :: u67 :: u68 :: u69 :: u70 :: u71 :: u72 :: u73 :: u74 :: u75 :: u76 :: u77 :: u78 :: u79 :: u80 :: u81 :: u82 :: u83 :: u84 :: u85 :: u86 :: u87 :: u88 :: u89 :: u90 :: u91 :: []).toArray,defers:= [] } W:=by
 subst hc;conv=>enter [2];whnf
 refine wp_region_tailH (by kernel_rfl) (by kernel_rfl) 7 (by show 7<_;decide) (by kernel_rfl) (by kernel_rfl) (fun s:Nat→Value=>({ tmps:=((.pointer (some ⟨b,0,none⟩)) :: u1 :: u2 :: u3 :: u4 :: u5 :: u6 :: (.pointer (some ⟨w.heap.size+1+1,0,none⟩)) :: (.pointer (some ⟨w.heap.size+1+1+1,0,none⟩)) :: u9 :: u10 :: u11 :: u12 :: u13 :: u14 :: u15 :: u16 :: u17 :: u18 :: u19 :: u20 :: u21 :: u22 :: u23 :: u24 :: u25 :: u26 :: u27 :: u28 :: u29 :: u30 :: u31 :: u32 :: u33 :: u34 :: u35 :: u36 :: u37 :: u38 :: u39 :: u40 :: u41 :: u42 :: u43 :: u44 :: u45 :: u46 :: u47 :: u48 :: u49 :: u50 :: u51 :: u52 :: u53 :: u54 :: u55 :: u56 :: u57 :: u58 :: u59 :: u60 :: u61 :: u62 :: u63 :: u64 :: u65 :: u66 :: u67 :: u68 :: u69 :: u70 :: u71 :: s 72 :: s 73 :: s 74 :: s 75 :: s 76 :: s 77 :: s 78 :: u79 :: u80 :: u81 :: u82 :: u83 :: u84 :: u85 :: u86 :: u87 :: u88 :: u89 :: u90 :: u91 :: []).toArray,defers:= [] } : Act)) (fun k=>if k=72 then u72 else if k=73 then u73 else if k=74 then u74 else if k=75 then u75 else if k=76 then u76 else if k=77 then u77 else if k=78 then u78 else undef) rfl 3 (by decide) (fun i=>([false,false,false,true,true,true,true] :List Bool).getD i false) (by kernel_rfl) (fun _ _=>True) (HGr w sc b L a ts lv lits ql B1 cur cl nv) ?g0 (fun i v x=>(i=6→∃b6,v = .slice (some ⟨b6,0,none⟩) 1 1∧Box x b6 #[.int .i64 (-1),.int .i64 1,.int .i64 m,.string ⟨#[]⟩] 83)∧(i≠6→([.pointer (some ⟨w.heap.size+1+1,2,none⟩),cl,.pointer (some ⟨b,0,none⟩),.int .i64 m,.agg #[.int .i64 1,.int .i64 m,.string ⟨#[]⟩],.agg #[.int .i64 (-1),.int .i64 1,.int .i64 m,.string ⟨#[]⟩],undef] :List Value)[i]? = some v)) (fun i v x y h hb=>⟨fun hi=>(by obtain⟨b6,h0,q0⟩:=h.1 hi;exact⟨b6,h0,q0.below hb⟩),h.2⟩) (fun i v x y hd _ _ h hb=>⟨fun hi=>(by subst hi;exact absurd hd (by decide)),h.2⟩) (fun i=>([72,73,74,75,76,77,78] :List Nat).getD i 0) ?inj ?step ?last
 case g0=>exact HG0.o
 case inj=>
  intro i j hi hj h;have hI:i=0∨i=1∨i=2∨i=3∨i=4∨i=5∨i=6:=by omega
  have hJ:j=0∨j=1∨j=2∨j=3∨j=4∨j=5∨j=6:=by omega
  rcases hI with rfl|rfl|rfl|rfl|rfl|rfl|rfl<;>rcases hJ with rfl|rfl|rfl|rfl|rfl|rfl|rfl<;>first|rfl| (exact absurd h (by decide))
 case last=>
  intro s x hv hgt;have HG:=ai hgt;clear hgt;have z0:s 72 = .pointer (some ⟨w.heap.size+1+1,2,none⟩):=by have h:=(hv 0 (by decide)).2 (by decide);injection h with h;exact h.symm
  have z1:s 73=cl:=by have h:=(hv 1 (by decide)).2 (by decide);injection h with h;exact h.symm
  have z2:s 74 = .pointer (some ⟨b,0,none⟩):=by have h:=(hv 2 (by decide)).2 (by decide);injection h with h;exact h.symm
  have z3:s 75 = .int .i64 m:=by have h:=(hv 3 (by decide)).2 (by decide);injection h with h;exact h.symm
  have z4:s 76 = .agg #[.int .i64 1,.int .i64 m,.string ⟨#[]⟩]:=by have h:=(hv 4 (by decide)).2 (by decide);injection h with h;exact h.symm
  have z5:s 77 = .agg #[.int .i64 (-1),.int .i64 1,.int .i64 m,.string ⟨#[]⟩]:=by have h:=(hv 5 (by decide)).2 (by decide);injection h with h;exact h.symm
  obtain⟨b6,hz6,hg6_0⟩:=(hv 6 (by decide)).1 rfl
  have z6:s 78 = .slice (some ⟨b6,0,none⟩) 1 1:=hz6;clear hz6;clear hv;obtain⟨i0,hi,hz0,hz1,hz2⟩:=info_parts info_slot4;have HH:=ai HG.o.hp;rw [if_pos rfl]at HH
  show Oper.wp _ _ _ _ _ _
  refine wp_append_own x _ _ 30 rfl B1 83 i0 (.agg #[.int .i64 0,.int .i64 0,.int .i64 0,.string ⟨#[]⟩]) 4 40 Tryz.underlying30 hi hz0 hz1 hz2 rfl (by decide) cl cur.length _ (by show s 73=_;exact z1) HH.o.cb.oc ⟨b6,0,none⟩ 1 1 [.int .i64 (-1),.int .i64 1,.int .i64 m,.string ⟨#[]⟩] (by show s 78=_;exact z6) rfl (box_cells hg6_0) (tm_one (.c ⟨1,m,⟨#[]⟩⟩)) (by have:=HCU.o;unfold maxLen;omega) (by have:=HCU.o;omega) (HB1.o _ x HH.o) ?_
  intro v2 y2 hown hgr _;obtain⟨g4,cap4,rfl⟩:=ownsRow_succ hown;obtain⟨hA,hbl⟩:=HH.o.app (t:=.c ⟨1,m,⟨#[]⟩⟩) hgr hown
  have HS:=ai hA;have k1:=hbl.cell (j:=2) rfl
  have f1:=hbl.fr 2;clear hown hgr hi hz0 hz1 hz2 hg6_0 hA hbl
  show Oper.wp _ _ _ _ _ _
  refine opwp_K (fun K2 hK2=> ?_)
  go_simp
  refine hK2 _ _ ?_
  show Oper.wp _ _ _ _ _ _
  clear hK2;refine opwp_K (fun K3 hK3=> ?_)
  go_simp
  refine hK3 _ _ ?_
  have h:=hend b6 g4 cap4 _ HS.o
  show Q _ _ _
  first|exact h| (simp only [z0,z1,z2,z3,z4,z5,z6];exact h)
 case step=>
  intro i o s x hin ho he bb hgb hbf hbt;have HG:=ai hgb;clear hgb;have hcase:i=0∨i=1∨i=2∨i=3∨i=4∨i=5∨i=6:=by omega
  rcases hcase with rfl|rfl|rfl|rfl|rfl|rfl|rfl
  ·injection ho with ho
   subst ho;clear he hbf hbt;refine opwp_K (fun K2 hK2=> ?_)
   go_simp
   exact hK2 _ _ ⟨(.pointer (some ⟨w.heap.size+1+1,2,none⟩)),(by first|rfl| (simp [List.getD];done)),sI_ne (by decide) (Below.refl _ _),gIf_ne (G:=HGr w sc b L a ts lv lits ql B1 cur cl nv) (by decide) HG.o,⟨fun h=>absurd h (by decide),fun _=>rfl⟩⟩
  ·injection ho with ho
   subst ho;have z0:s 72 = .pointer (some ⟨w.heap.size+1+1,2,none⟩):=by have h:=(he ⟨0,.data⟩ (by simp) rfl).2 (by decide);injection h with h;exact h.symm
   clear he hbf hbt;have k1:=HG.o.hp.bq.cell (j:=2) rfl
   refine opwp_K (fun K2 hK2=> ?_)
   go_simp
   exact hK2 _ _ ⟨(cl),(by first|rfl| (simp [z0];done)),sI_ne (by decide) (Below.refl _ _),gIf_ne (G:=HGr w sc b L a ts lv lits ql B1 cur cl nv) (by decide) HG.o,⟨fun h=>absurd h (by decide),fun _=>rfl⟩⟩
  ·injection ho with ho
   subst ho;clear he hbf hbt;refine opwp_K (fun K2 hK2=> ?_)
   go_simp
   exact hK2 _ _ ⟨(.pointer (some ⟨b,0,none⟩)),(by first|rfl| (simp [List.getD];done)),sI_ne (by decide) (Below.refl _ _),gIf_ne (G:=HGr w sc b L a ts lv lits ql B1 cur cl nv) (by decide) HG.o,⟨fun h=>absurd h (by decide),fun _=>rfl⟩⟩
  ·injection ho with ho
   subst ho;have z2:s 74 = .pointer (some ⟨b,0,none⟩):=by have h:=(he ⟨2,.data⟩ (by simp) rfl).2 (by decide);injection h with h;exact h.symm
   obtain rfl:bb=false:=hbf rfl;clear he hbf hbt;have HQ:=ai HG.o.hp;rw [if_neg (by decide)]at HQ
   refine opwp_K (fun K2 hK2=> ?_)
   go_simp
   go_at_call 10
   refine(n_any x b a L 3 HQ.o.cb.ts.tp (by have:=HA.o;omega) (by constructor<;>decide)).mono ?_
   rintro e y ⟨rfl,h1,h2⟩;rw [HM.o]
   go_simp
   have hp:=HQ.o.tape h2 h1;exact hK2 _ _ ⟨(.int .i64 m),(by first|rfl| (simp [z2];done)),sI_eq rfl (trivial),gIf_eq (G:=HGr w sc b L a ts lv lits ql B1 cur cl nv) (⟨by rw [if_pos rfl];exact hp⟩),⟨fun h=>absurd h (by decide),fun _=>rfl⟩⟩
  ·injection ho with ho
   subst ho;have z3:s 75 = .int .i64 m:=by have h:=(he ⟨3,.data⟩ (by simp) rfl).2 (by decide);injection h with h;exact h.symm
   obtain rfl:bb=true:=hbt ⟨⟨3,.data⟩,by simp,rfl,rfl⟩
   clear he hbf hbt;refine opwp_K (fun K2 hK2=> ?_)
   go_simp
   go_at_call 41
   refine(fint_any m x).mono ?_
   rintro e y ⟨rfl,hb⟩
   go_simp
   exact hK2 _ _ ⟨(.agg #[.int .i64 1,.int .i64 m,.string ⟨#[]⟩]),(by first|rfl| (simp [z3];done)),sI_ne (by decide) (hb),gIf_ne (G:=HGr w sc b L a ts lv lits ql B1 cur cl nv) (by decide) (HG.o.below hb),⟨fun h=>absurd h (by decide),fun _=>rfl⟩⟩
  ·injection ho with ho
   subst ho;have z4:s 76 = .agg #[.int .i64 1,.int .i64 m,.string ⟨#[]⟩]:=by have h:=(he ⟨4,.data⟩ (by simp) rfl).2 (by decide);injection h with h;exact h.symm
   clear he hbf hbt;refine opwp_K (fun K2 hK2=> ?_)
   go_simp
   exact hK2 _ _ ⟨(.agg #[.int .i64 (-1),.int .i64 1,.int .i64 m,.string ⟨#[]⟩]),(by first|rfl| (simp [z4];done)),sI_ne (by decide) (Below.refl _ _),gIf_ne (G:=HGr w sc b L a ts lv lits ql B1 cur cl nv) (by decide) HG.o,⟨fun h=>absurd h (by decide),fun _=>rfl⟩⟩
  ·injection ho with ho
   subst ho;have z5:s 77 = .agg #[.int .i64 (-1),.int .i64 1,.int .i64 m,.string ⟨#[]⟩]:=by have h:=(he ⟨5,.data⟩ (by simp) rfl).2 (by decide);injection h with h;exact h.symm
   clear he hbf hbt;refine opwp_K (fun K2 hK2=> ?_)
   go_simp
   exact hK2 _ _ ⟨_,(by first|rfl| (simp [z5];done)),sI_ne (by decide) (belA _),gIf_ne (G:=HGr w sc b L a ts lv lits ql B1 cur cl nv) (by decide) (HG.o.below (belA _)),⟨fun _=>⟨_,rfl,Box.new _ _ _⟩,fun h=>absurd rfl h⟩⟩
theorem cj_reg19 {w:World} {sc:Sch} {b a B1 nv:Nat} {L:IL} {ts:List Int} {lv ql cl:Value} {lits:List Li} {cur:List (Tm V)} {W:World} (HA:Hid (a≤4611686018427387000)) (HCU:Hid (cur.length≤1000)) (HB1:Hid (∀a2 x,HP w sc b L a2 ts lv lits ql B1 cur cl nv x→B1≤x.heap.size)) (HG0:Hid (HGr w sc b L a ts lv lits ql B1 cur cl nv false W.drew)) {k:Nat} {hd:Hd} (HM:Hid (nAt L a ts.length= (k:Int))) (HTS:Hid (ts.length≤900)) (HLV:Hid (lv = .slice hd.ao ts.length hd.cap)) {Q:Exit→Act→World→Prop} {c:Code} {u1 u2 u3 u4 u5 u6 u9 u10 u11 u12 u13 u14 u15 u16 u17 u18 u19 u20 u21 u22 u23 u24 u25 u26 u27 u28 u29 u30 u31 u32 u33 u34 u35 u36 u37 u38 u39 u40 u41 u42 u43 u44 u45 u46 u47 u48 u49 u50 u51 u52 u53 u54 u55 u56 u57 u58 u59 u60 u61 u62 u63 u64 u65 u66 u67 u68 u69 u70 u71 u72 u73 u74 u75 u76 u77 u78 u79 u80 u81 u82 u83 u84 u85 u86 u87 u88 u89 u90 u91:Value} (hc:c=codeIn [1,1,1,1,1,0,1,4,5,1,0,4,1,3] cjBody) (hend: ∀(b7 g4 cap4:Nat) x,HP w sc b L (posAt L a) ts lv lits ql B1 (cur ++ [.v k]) (.slice (some ⟨g4,0,none⟩) (cur.length+1) cap4) nv x→Q .normal { tmps:=((.pointer (some ⟨b,0,none⟩)) :: u1 :: u2 :: u3 :: u4 :: u5 :: u6 :: (.pointer (some ⟨w.heap.size+1+1,0,none⟩)) :: (.pointer (some ⟨w.heap.size+1+1+1,0,none⟩)) :: u9 :: u10 :: u11 :: u12 :: u13 :: u14 :: u15 :: u16 :: u17 :: u18 :: u19 :: u20 :: u21 :: u22 :: u23 :: u24 :: u25 :: u26 :: u27 :: u28 :: u29 :: u30 :: u31 :: u32 :: u33 :: u34 :: u35 :: u36 :: u37 :: u38 :: u39 :: u40 :: u41 :: u42 :: u43 :: u44 :: u45 :: u46 :: u47 :: u48 :: u49 :: u50 :: u51 :: u52 :: u53 :: u54 :: u55 :: u56 :: u57 :: u58 :: u59 :: u60 :: u61 :: u62 :: u63 :: u64 :: u65 :: u66 :: u67 :: u68 :: u69 :: u70 :: u71 :: u72 :: u73 :: u74 :: u75 :: u76 :: u77 :: u78 :: u79 :: u80 :: .pointer (some ⟨w.heap.size+1+1,2,none⟩) :: cl :: .pointer (some ⟨b,0,none⟩) :: .slice hd.ao ts.length hd.cap :: .int .i64 (ts.length:Nat) :: .int .i64 (k:Nat) :: .agg #[.int .i64 (k:Nat),.int .i64 0,.int .i64 0,.string ⟨#[]⟩] :: .slice (some ⟨b7,0,none⟩) 1 1 :: .slice (some ⟨g4,0,none⟩) (cur.length+1) cap4 :: .pointer (some ⟨w.heap.size+1+1,2,none⟩) :: u91 :: []).toArray,defers:= [] } x) :Code.wp Tryz.prog c Q { tmps:=((.pointer (some ⟨b,0,none⟩)) :: u1 :: u2 :: u3 :: u4 :: u5 :: u6 :: (.pointer (some ⟨w.heap.size+1+1,0,none⟩)) :: (.pointer (some ⟨w.heap.size+1+1+1,0,none⟩)) :: u9 :: u10 :: u11 :: u12 :: u13 :: u14 :: u15 :: u16 :: u17 :: u18 :: u19 :: u20 :: u21 :: u22 :: u23 :: u24 :: u25 :: u26 :: u27 :: u28 :: u29 :: u30 :: u31 :: u32 :: u33 :: u34 :: u35 :: u36 :: u37 :: u38 :: u39 :: u40 :: u41 :: u42 :: u43 :: u44 :: u45 :: u46 :: u47 :: u48 :: u49 :: u50 :: u51 :: u52 :: u53 :: u54 :: u55 :: u56 :: u57 :: u58 :: u59 :: u60 :: u61 :: u62 :: u63 :: u64 :: u65 :: u66 :: u67 :: u68 :: u69 :: u70 :: u71 :: u72 :: u73 :: u74 :: u75 :: u76 :: u77 :: u78 :: u79 :: u80 :: u81 :: u82 :: u83 :: u84 :: u85 :: u86 :: u87 :: u88 :: u89 :: u90 :: u91 :: []).toArray,defers:= [] } W:=by
 subst hc;conv=>enter [2];whnf
 refine wp_region_tailH (by kernel_rfl) (by kernel_rfl) 8 (by show 8<_;decide) (by kernel_rfl) (by kernel_rfl) (fun s:Nat→Value=>({ tmps:=((.pointer (some ⟨b,0,none⟩)) :: u1 :: u2 :: u3 :: u4 :: u5 :: u6 :: (.pointer (some ⟨w.heap.size+1+1,0,none⟩)) :: (.pointer (some ⟨w.heap.size+1+1+1,0,none⟩)) :: u9 :: u10 :: u11 :: u12 :: u13 :: u14 :: u15 :: u16 :: u17 :: u18 :: u19 :: u20 :: u21 :: u22 :: u23 :: u24 :: u25 :: u26 :: u27 :: u28 :: u29 :: u30 :: u31 :: u32 :: u33 :: u34 :: u35 :: u36 :: u37 :: u38 :: u39 :: u40 :: u41 :: u42 :: u43 :: u44 :: u45 :: u46 :: u47 :: u48 :: u49 :: u50 :: u51 :: u52 :: u53 :: u54 :: u55 :: u56 :: u57 :: u58 :: u59 :: u60 :: u61 :: u62 :: u63 :: u64 :: u65 :: u66 :: u67 :: u68 :: u69 :: u70 :: u71 :: u72 :: u73 :: u74 :: u75 :: u76 :: u77 :: u78 :: u79 :: u80 :: s 81 :: s 82 :: s 83 :: s 84 :: s 85 :: s 86 :: s 87 :: s 88 :: u89 :: u90 :: u91 :: []).toArray,defers:= [] } : Act)) (fun k=>if k=81 then u81 else if k=82 then u82 else if k=83 then u83 else if k=84 then u84 else if k=85 then u85 else if k=86 then u86 else if k=87 then u87 else if k=88 then u88 else undef) rfl 5 (by decide) (fun i=>([false,false,false,false,false,true,true,true] :List Bool).getD i false) (by kernel_rfl) (fun _ _=>True) (HGr w sc b L a ts lv lits ql B1 cur cl nv) ?g0 (fun i v x=>(i=7→∃b7,v = .slice (some ⟨b7,0,none⟩) 1 1∧Box x b7 #[.int .i64 (k:Nat),.int .i64 0,.int .i64 0,.string ⟨#[]⟩] 83)∧(i≠7→([.pointer (some ⟨w.heap.size+1+1,2,none⟩),cl,.pointer (some ⟨b,0,none⟩),.slice hd.ao ts.length hd.cap,.int .i64 (ts.length:Nat),.int .i64 (k:Nat),.agg #[.int .i64 (k:Nat),.int .i64 0,.int .i64 0,.string ⟨#[]⟩],undef] :List Value)[i]? = some v)) (fun i v x y h hb=>⟨fun hi=>(by obtain⟨b7,h0,q0⟩:=h.1 hi;exact⟨b7,h0,q0.below hb⟩),h.2⟩) (fun i v x y hd _ _ h hb=>⟨fun hi=>(by subst hi;exact absurd hd (by decide)),h.2⟩) (fun i=>([81,82,83,84,85,86,87,88] :List Nat).getD i 0) ?inj ?step ?last
 case g0=>exact HG0.o
 case inj=>
  intro i j hi hj h;have hI:i=0∨i=1∨i=2∨i=3∨i=4∨i=5∨i=6∨i=7:=by omega
  have hJ:j=0∨j=1∨j=2∨j=3∨j=4∨j=5∨j=6∨j=7:=by omega
  rcases hI with rfl|rfl|rfl|rfl|rfl|rfl|rfl|rfl<;>rcases hJ with rfl|rfl|rfl|rfl|rfl|rfl|rfl|rfl<;>first|rfl| (exact absurd h (by decide))
 case last=>
  intro s x hv hgt;have HG:=ai hgt;clear hgt;have z0:s 81 = .pointer (some ⟨w.heap.size+1+1,2,none⟩):=by have h:=(hv 0 (by decide)).2 (by decide);injection h with h;exact h.symm
  have z1:s 82=cl:=by have h:=(hv 1 (by decide)).2 (by decide);injection h with h;exact h.symm
  have z2:s 83 = .pointer (some ⟨b,0,none⟩):=by have h:=(hv 2 (by decide)).2 (by decide);injection h with h;exact h.symm
  have z3:s 84 = .slice hd.ao ts.length hd.cap:=by have h:=(hv 3 (by decide)).2 (by decide);injection h with h;exact h.symm
  have z4:s 85 = .int .i64 (ts.length:Nat):=by have h:=(hv 4 (by decide)).2 (by decide);injection h with h;exact h.symm
  have z5:s 86 = .int .i64 (k:Nat):=by have h:=(hv 5 (by decide)).2 (by decide);injection h with h;exact h.symm
  have z6:s 87 = .agg #[.int .i64 (k:Nat),.int .i64 0,.int .i64 0,.string ⟨#[]⟩]:=by have h:=(hv 6 (by decide)).2 (by decide);injection h with h;exact h.symm
  obtain⟨b7,hz7,hg7_0⟩:=(hv 7 (by decide)).1 rfl
  have z7:s 88 = .slice (some ⟨b7,0,none⟩) 1 1:=hz7;clear hz7;clear hv;obtain⟨i0,hi,hz0,hz1,hz2⟩:=info_parts info_slot4;have HH:=ai HG.o.hp;rw [if_pos rfl]at HH
  show Oper.wp _ _ _ _ _ _
  refine wp_append_own x _ _ 30 rfl B1 83 i0 (.agg #[.int .i64 0,.int .i64 0,.int .i64 0,.string ⟨#[]⟩]) 4 40 Tryz.underlying30 hi hz0 hz1 hz2 rfl (by decide) cl cur.length _ (by show s 82=_;exact z1) HH.o.cb.oc ⟨b7,0,none⟩ 1 1 [.int .i64 (k:Nat),.int .i64 0,.int .i64 0,.string ⟨#[]⟩] (by show s 88=_;exact z7) rfl (box_cells hg7_0) (tm_one (.v k)) (by have:=HCU.o;unfold maxLen;omega) (by have:=HCU.o;omega) (HB1.o _ x HH.o) ?_
  intro v2 y2 hown hgr _;obtain⟨g4,cap4,rfl⟩:=ownsRow_succ hown;obtain⟨hA,hbl⟩:=HH.o.app (t:=.v k) hgr hown
  have HS:=ai hA;have k1:=hbl.cell (j:=2) rfl
  have f1:=hbl.fr 2;clear hown hgr hi hz0 hz1 hz2 hg7_0 hA hbl
  show Oper.wp _ _ _ _ _ _
  refine opwp_K (fun K2 hK2=> ?_)
  go_simp
  refine hK2 _ _ ?_
  show Oper.wp _ _ _ _ _ _
  clear hK2;refine opwp_K (fun K3 hK3=> ?_)
  go_simp
  refine hK3 _ _ ?_
  have h:=hend b7 g4 cap4 _ HS.o
  show Q _ _ _
  first|exact h| (simp only [z0,z1,z2,z3,z4,z5,z6,z7];exact h)
 case step=>
  intro i o s x hin ho he bb hgb hbf hbt;have HG:=ai hgb;clear hgb;have hcase:i=0∨i=1∨i=2∨i=3∨i=4∨i=5∨i=6∨i=7:=by omega
  rcases hcase with rfl|rfl|rfl|rfl|rfl|rfl|rfl|rfl
  ·injection ho with ho
   subst ho;clear he hbf hbt;refine opwp_K (fun K2 hK2=> ?_)
   go_simp
   exact hK2 _ _ ⟨(.pointer (some ⟨w.heap.size+1+1,2,none⟩)),(by first|rfl| (simp [List.getD];done)),sI_ne (by decide) (Below.refl _ _),gIf_ne (G:=HGr w sc b L a ts lv lits ql B1 cur cl nv) (by decide) HG.o,⟨fun h=>absurd h (by decide),fun _=>rfl⟩⟩
  ·injection ho with ho
   subst ho;have z0:s 81 = .pointer (some ⟨w.heap.size+1+1,2,none⟩):=by have h:=(he ⟨0,.data⟩ (by simp) rfl).2 (by decide);injection h with h;exact h.symm
   clear he hbf hbt;have k1:=HG.o.hp.bq.cell (j:=2) rfl
   refine opwp_K (fun K2 hK2=> ?_)
   go_simp
   exact hK2 _ _ ⟨(cl),(by first|rfl| (simp [z0];done)),sI_ne (by decide) (Below.refl _ _),gIf_ne (G:=HGr w sc b L a ts lv lits ql B1 cur cl nv) (by decide) HG.o,⟨fun h=>absurd h (by decide),fun _=>rfl⟩⟩
  ·injection ho with ho
   subst ho;clear he hbf hbt;refine opwp_K (fun K2 hK2=> ?_)
   go_simp
   exact hK2 _ _ ⟨(.pointer (some ⟨b,0,none⟩)),(by first|rfl| (simp [List.getD];done)),sI_ne (by decide) (Below.refl _ _),gIf_ne (G:=HGr w sc b L a ts lv lits ql B1 cur cl nv) (by decide) HG.o,⟨fun h=>absurd h (by decide),fun _=>rfl⟩⟩
  ·injection ho with ho
   subst ho;clear he hbf hbt;have k1:x.cell? ⟨w.heap.size+1+1+1,0,none⟩ =some (.slice hd.ao ts.length hd.cap):=by rw [←HLV.o];exact HG.o.hp.cb.ts.bx.cell rfl
   refine opwp_K (fun K2 hK2=> ?_)
   go_simp
   exact hK2 _ _ ⟨(.slice hd.ao ts.length hd.cap),(by first|rfl| (simp [List.getD];done)),sI_ne (by decide) (Below.refl _ _),gIf_ne (G:=HGr w sc b L a ts lv lits ql B1 cur cl nv) (by decide) HG.o,⟨fun h=>absurd h (by decide),fun _=>rfl⟩⟩
  ·injection ho with ho
   subst ho;have z3:s 84 = .slice hd.ao ts.length hd.cap:=by have h:=(he ⟨3,.data⟩ (by simp) rfl).2 (by decide);injection h with h;exact h.symm
   clear he hbf hbt;refine opwp_K (fun K2 hK2=> ?_)
   go_simp
   exact hK2 _ _ ⟨(.int .i64 (ts.length:Nat)),(by first|rfl| (simp [z3];done)),sI_ne (by decide) (Below.refl _ _),gIf_ne (G:=HGr w sc b L a ts lv lits ql B1 cur cl nv) (by decide) HG.o,⟨fun h=>absurd h (by decide),fun _=>rfl⟩⟩
  ·injection ho with ho
   subst ho;have z2:s 83 = .pointer (some ⟨b,0,none⟩):=by have h:=(he ⟨2,.data⟩ (by simp) rfl).2 (by decide);injection h with h;exact h.symm
   have z4:s 85 = .int .i64 (ts.length:Nat):=by have h:=(he ⟨4,.data⟩ (by simp) rfl).2 (by decide);injection h with h;exact h.symm
   obtain rfl:bb=false:=hbf rfl;clear he hbf hbt;have HQ:=ai HG.o.hp;rw [if_neg (by decide)]at HQ
   refine opwp_K (fun K2 hK2=> ?_)
   go_simp
   go_at_call 10
   refine(n_any x b a L ts.length HQ.o.cb.ts.tp (by have:=HA.o;omega) (by have:=HTS.o;constructor<;>omega)).mono ?_
   rintro e y ⟨rfl,h1,h2⟩;rw [HM.o]
   go_simp
   have hp:=HQ.o.tape h2 h1;exact hK2 _ _ ⟨(.int .i64 (k:Nat)),(by first|rfl| (simp [z2,z4];done)),sI_eq rfl (trivial),gIf_eq (G:=HGr w sc b L a ts lv lits ql B1 cur cl nv) (⟨by rw [if_pos rfl];exact hp⟩),⟨fun h=>absurd h (by decide),fun _=>rfl⟩⟩
  ·injection ho with ho
   subst ho;have z5:s 86 = .int .i64 (k:Nat):=by have h:=(he ⟨5,.data⟩ (by simp) rfl).2 (by decide);injection h with h;exact h.symm
   obtain rfl:bb=true:=hbt ⟨⟨5,.data⟩,by simp,rfl,rfl⟩
   clear he hbf hbt;refine opwp_K (fun K2 hK2=> ?_)
   go_simp
   exact hK2 _ _ ⟨(.agg #[.int .i64 (k:Nat),.int .i64 0,.int .i64 0,.string ⟨#[]⟩]),(by first|rfl| (simp [z5];done)),sI_ne (by decide) (Below.refl _ _),gIf_ne (G:=HGr w sc b L a ts lv lits ql B1 cur cl nv) (by decide) HG.o,⟨fun h=>absurd h (by decide),fun _=>rfl⟩⟩
  ·injection ho with ho
   subst ho;have z6:s 87 = .agg #[.int .i64 (k:Nat),.int .i64 0,.int .i64 0,.string ⟨#[]⟩]:=by have h:=(he ⟨6,.data⟩ (by simp) rfl).2 (by decide);injection h with h;exact h.symm
   clear he hbf hbt;refine opwp_K (fun K2 hK2=> ?_)
   go_simp
   exact hK2 _ _ ⟨_,(by first|rfl| (simp [z6];done)),sI_ne (by decide) (belA _),gIf_ne (G:=HGr w sc b L a ts lv lits ql B1 cur cl nv) (by decide) (HG.o.below (belA _)),⟨fun _=>⟨_,rfl,Box.new _ _ _⟩,fun h=>absurd rfl h⟩⟩
end Go.Proofs.YtiijaaohphokcaaGreatDoor
/- What querylabfield.Conjunctive makes, plainly. -/
namespace Go.Proofs.YtiijaaohphokcaaGreatDoor
open Go.RowKit
abbrev tyo (ts:List Int) :Nat→Int:=fun n=>ts.getD n 0
theorem tyo_push {ts:List Int} {x:Int} {n:Nat} (h:n<ts.length) :tyo (ts ++ [x]) n=tyo ts n:=by
 show(ts ++ [x]).getD n 0=ts.getD n 0
 rw [List.getD_eq_getElem?_getD,List.getD_eq_getElem?_getD,List.getElem?_append_left h]
theorem slotOk_push {ts:List Int} {x c:Int} {t:Tm V} (h:SlotOk ts.length (tyo ts) t c) :SlotOk (ts ++ [x]).length (tyo (ts ++ [x])) t c:=by
 cases t with
 | c k=>exact h
 | v n=>exact⟨by rw [List.length_append];exact Nat.lt_succ_of_lt h.1,(tyo_push h.1).trans h.2⟩
structure Dat (T:List (List Int)) (ts:List Int) (lits:List Li) (ty:List Int) (cur:List (Tm V)) :Prop where
 ok: ∀l∈lits,LitOk T ts.length (tyo ts) l.lt
 occ: ∀n,n<ts.length→(∃l∈lits,Tm.v n∈l.sl.l)∨Tm.v n∈cur
 wf: ∀l∈lits,∀t∈l.sl.l,t.wf
 tb: ∀l∈lits,l.tab≤1000
 ln:ts.length≤3*lits.length+cur.length
 cok: ∀(i:Nat) (t:Tm V) (c:Int),cur[i]? = some t→ty[i]? = some c→SlotOk ts.length (tyo ts) t c
 cwf: ∀t∈cur,t.wf
theorem Dat.start (T:List (List Int)) (ty:List Int) :Dat T [] [] ty []:=⟨fun _ h=>absurd h List.not_mem_nil,fun _ h=>absurd h (Nat.not_lt_zero _),fun _ h=>absurd h List.not_mem_nil,fun _ h=>absurd h List.not_mem_nil,Nat.zero_le _,fun _ _ _ h=>(by simp at h),fun _ h=>absurd h List.not_mem_nil⟩
theorem Dat.ty {T:List (List Int)} {ts:List Int} {lits:List Li} {ty ty2:List Int} (h:Dat T ts lits ty []) :Dat T ts lits ty2 []:=⟨h.ok,h.occ,h.wf,h.tb,h.ln,fun _ _ _ h=>(by simp at h),h.cwf⟩
theorem Dat.slot {T:List (List Int)} {ts ts2:List Int} {lits:List Li} {ty:List Int} {cur:List (Tm V)} {t:Tm V} {typ:Int} (h:Dat T ts lits ty cur) (hi:ty[cur.length]? = some typ) (tr:ts2=ts∨(ts2=ts ++ [typ]∧t = .v ts.length)) (ok:SlotOk ts2.length (fun n=>ts2.getD n 0) t typ) (wf:t.wf) :Dat T ts2 lits ty (cur ++ [t]):=by
 have hc: ∀(i:Nat) (u:Tm V) (c:Int),(cur ++ [t])[i]? = some u→ty[i]? = some c→(∀(i:Nat) (t:Tm V) (c:Int),cur[i]? = some t→ty[i]? = some c→SlotOk ts2.length (tyo ts2) t c)→SlotOk ts2.length (tyo ts2) u c:=fun i u c hu hc hk=>by
  rcases Nat.lt_trichotomy i cur.length with hl|hl|hl
  ·rw [List.getElem?_append_left hl]at hu
   exact hk i u c hu hc
  ·subst hl
   rw [List.getElem?_append_right (Nat.le_refl _),Nat.sub_self]at hu;injection hu with hu;rw [hi]at hc;injection hc with hc;rw [←hu,←hc];exact ok
  ·rw [List.getElem?_eq_none (by rw [List.length_append];show cur.length+1≤i;omega)]at hu
   cases hu
 have hw: ∀u∈cur ++ [t],u.wf:=fun u hu=>by
  rcases List.mem_append.1 hu with hu|hu
  ·exact h.cwf u hu
  ·rw [List.mem_singleton.1 hu];exact wf
 rcases tr with rfl| ⟨rfl,rfl⟩
 ·exact⟨h.ok,fun n hn=>(h.occ n hn).imp id (fun h2=>List.mem_append_left _ h2),h.wf,h.tb,by rw [List.length_append];have:=h.ln;omega,fun i u c h1 h2=>hc i u c h1 h2 h.cok,hw⟩
 ·refine⟨fun l hl=> ?_,fun n hn=> ?_,h.wf,h.tb,by rw [List.length_append,List.length_append];have:=h.ln;simp only [List.length_cons,List.length_nil];omega,fun i u c h1 h2=>hc i u c h1 h2 (fun i u c h1 h2=>slotOk_push (h.cok i u c h1 h2)),hw⟩
  ·obtain⟨ty2,t1,t2,t3⟩:=h.ok l hl
   exact⟨ty2,t1,t2,fun i u c h1 h2=>slotOk_push (t3 i u c h1 h2)⟩
  ·rw [List.length_append]at hn
   have hn:n<ts.length+1:=hn;by_cases e:n=ts.length
   ·subst e;exact .inr (List.mem_append_right _ (List.mem_singleton.2 rfl))
   ·exact(h.occ n (by omega)).imp id (fun h2=>List.mem_append_left _ h2)
theorem Dat.lit {T:List (List Int)} {ts:List Int} {lits:List Li} {ty:List Int} {cur:List (Tm V)} {tab:Nat} {hd:Hd} (h:Dat T ts lits ty cur) (ht:T[tab]? = some ty) (hl:cur.length=ty.length) (h3:cur.length≤3) (hb:tab≤1000) :Dat T ts (lits ++ [⟨tab,⟨hd,cur⟩⟩]) ty []:=by
 have key: ∀ {p:Li→Prop},(∀l∈lits,p l)→p ⟨tab,⟨hd,cur⟩⟩→∀l∈lits ++ [⟨tab,⟨hd,cur⟩⟩],p l:=fun h1 h2 l hl=>by
  rcases List.mem_append.1 hl with hl|hl
  ·exact h1 l hl
  ·rw [List.mem_singleton.1 hl];exact h2
 refine⟨key h.ok ⟨ty,ht,hl,h.cok⟩,fun n hn=>.inl ?_,key h.wf h.cwf,key h.tb hb,by rw [List.length_append];have:=h.ln;simp only [List.length_cons,List.length_nil];omega,fun _ _ _ h=>(by simp at h),fun _ h=>absurd h List.not_mem_nil⟩
 rcases h.occ n hn with⟨l,h1,h2⟩ |h2
 ·exact⟨l,List.mem_append_left _ h1,h2⟩
 ·exact⟨_,List.mem_append_right _ (List.mem_singleton.2 rfl),h2⟩
def HdOk (n:Nat) (hs:List (Tm V)) :Prop:=∀t∈hs,HeadOk n t∧t.wf
theorem HdOk.snoc {n:Nat} {hs:List (Tm V)} {t:Tm V} (h:HdOk n hs) (h1:HeadOk n t) (h2:t.wf) :HdOk n (hs ++ [t]):=fun u hu=>by
 rcases List.mem_append.1 hu with hu|hu
 ·exact h u hu
 ·rw [List.mem_singleton.1 hu];exact⟨h1,h2⟩
theorem Dat.right {T:List (List Int)} {ts:List Int} {lits:List Li} {ty:List Int} {q:Cq} (h:Dat T ts lits ty []) (h0:0<lits.length) (h4:lits.length≤4) (hv:q.vars=ts.length) (hq:q.lits=lits) (hh:HdOk ts.length q.head.l) (h1:0<q.head.l.length) (h24:q.head.l.length≤24) :Right T q.vars q.cj (tyo ts):=by
 have hlen:q.cj.lits.length=lits.length:=by rw [←hq];exact List.length_map _
 refine⟨by omega,by omega,?_,h1,h24,fun l hl=> ?_,fun n hn=> ?_,fun t ht=> ?_⟩
 ·have:=h.ln;rw [hv];simp only [List.length_nil]at this;omega
 ·obtain⟨l0,hl0,rfl⟩:=List.mem_map.1 hl
  rw [hv];exact h.ok l0 (hq▸hl0)
 ·rcases h.occ n (hv▸hn)with⟨l,k1,k2⟩ |k
  ·exact⟨l.lt,List.mem_map_of_mem (hq▸k1),k2⟩
  ·exact absurd k List.not_mem_nil
 ·rw [hv];exact(hh t ht).1
end Go.Proofs.YtiijaaohphokcaaGreatDoor
/- querylabfield.Conjunctive: its walk. -/
namespace Go.Proofs.YtiijaaohphokcaaGreatDoor
open Go.RowKit
def CjPost (w:World) (b:Nat) (L:IL) (a:Nat) (T:List (List Int)) (n:Nat) (e:Ending) (w':World) :Prop:=∃(q:Cq) (a':Nat),e = .returned (.agg #[.int .i64 (q.vars:Nat),.slice q.lh.ao q.lits.length q.lh.cap,.slice q.head.h.ao q.head.l.length q.head.h.cap])∧RightQ w' T q w.heap.size∧TapeIn w' b L a'∧a'≤a+100∧w.grownBy w' (some b)∧q.lits.length≤n
theorem CB.rebase {w z:World} {s:Sch} {b a B1 B2:Nat} {L:IL} {ts:List Int} {lv ql:Value} {lits:List Li} (h:CB w s b L a ts lv lits ql B1 [] (.slice none 0 0) z) (hB:z.heap.size≤B2) :CB w s b L a ts lv lits ql B2 [] (.slice none 0 0) z:=⟨h.ts,h.bs,h.br,h.ol,fun l hl=>⟨(h.sl l hl).row,(h.sl l hl).ty,(h.sl l hl).ge,Nat.lt_of_lt_of_le (h.sl l hl).ty.lt hB⟩,World.ownsRow_nil _ _ _ _,Nat.le_trans (Nat.le_of_lt h.bs.lt) hB⟩
theorem colT_at {s:Sch} {t:Nat} (ht:t<s.tabs.length) : (colT s)[t]? = some ((s.tabs[t]).cols.map Col.typ):=by
 unfold colT
 rw [List.getElem?_map,List.getElem?_eq_getElem ht]
 rfl
theorem own_rowE {α:Type} {w:World} {base:Nat} {e:TypeId} {size:Nat} {v:Value} {cells:α→List Value} {xs:List α} (hs: ∀x,(cells x).length=size) (hpos:0<size) (h:w.ownsRow base e size v xs.length (xs.flatMap cells)) : ∃hd:Hd,v = .slice hd.ao xs.length hd.cap∧Row w size cells hd xs∧(0<xs.length→base≤hd.b∧v.ownBlock=some hd.b):=by
 obtain⟨hd,hv,hr⟩:=own_row hs hpos h;refine⟨hd,hv,hr,fun hp=> ?_⟩
 have h2:hd.ao=some ⟨hd.b,hd.o,none⟩:=(hr.2.2.1 hp).1;have h3:v.ownBlock=some hd.b:=by rw [hv,h2];rfl
 exact⟨(h.lt _ h3).1,h3⟩
theorem cj_done {w wr:World} {s:Sch} {b a B1 nv:Nat} {L:IL} {ts:List Int} {lv ql cl:Value} {lits:List Li} {cur:List (Tm V)} {T:List (List Int)} {ty:List Int} (h:HP w s b L a ts lv lits ql B1 cur cl nv wr) (hd:Dat T ts lits ty []) (hh:HdOk ts.length cur) (hts:ts.length≤1000) :
  ∃qhd chd:Hd,ql = .slice qhd.ao lits.length qhd.cap∧cl = .slice chd.ao cur.length chd.cap∧∀Y:World,(∀g,g≠w.heap.size+1→g<wr.heap.size→Y.heap[g]? = wr.heap[g]?)→wr.heap.size≤Y.heap.size→Cq.In Y w.heap.size ⟨ts.length,qhd,lits,⟨chd,cur⟩⟩:=by
 have hbr:=TyAt.box h.cb.br;obtain⟨qhd,e1,r1,o1⟩:=own_rowE (cells:=Li.cells) (fun _=>rfl) (by decide) h.cb.ol
 obtain⟨chd,e2,r2,o2⟩:=own_rowE (cells:=Tm.cells) Tm.cells_len (by decide) h.cb.oc
 have hlo:=h.cb.lo;refine⟨qhd,chd,e1,e2,fun Y hk hs=> ?_⟩
 have key: ∀g T,TyAt wr g T→32≠T→Y.heap[g]? = wr.heap[g]? :=fun g T ht hne=>hk g (fun e=>ht.ne hbr (fun e2=>hne e2.symm) e) ht.lt
 have hrow: ∀ {α:Type} {size:Nat} {cells:α→List Value} {hd:Hd} {xs:List α},Row wr size cells hd xs→(0<xs.length→Y.heap[hd.b]? = wr.heap[hd.b]?)→Row Y size cells hd xs:=fun {α size cells hd xs} hr hb=>by
  by_cases hp:0<xs.length
  ·exact row_eqb hr hs (hb hp)
  ·have:xs = []:=List.eq_nil_of_length_eq_zero (by omega)
   subst this;exact⟨hr.1,hr.2.1,fun h=>absurd h (by simp),fun i hi=>absurd hi (by simp)⟩
 refine⟨hrow r1 (fun hp=>key _ _ (TyAt.own h.cb.ol (o1 hp).2) (by decide)),fun hp=>(o1 hp).1,fun l hl=> ?_,hd.tb,⟨hrow r2 (fun hp=>key _ _ (TyAt.own h.cb.oc (o2 hp).2) (by decide)),fun t ht=>(hh t ht).2,fun hp=>Nat.le_trans hlo (o2 hp).1⟩,hts⟩
 have h3:=h.cb.sl l hl;exact⟨row_eqb h3.row hs (key _ _ h3.ty (by decide)),hd.wf l hl,fun _=>h3.ge⟩
abbrev cjX (w:World) (s:Sch) :World:=(((w.alloc (.cells #[.slice s.th.ao s.tabs.length s.th.cap] 27)).alloc (.cells #[.int .i64 0,.slice none 0 0,.slice none 0 0] 32)).alloc (.cells #[.int .i64 0,.slice none 0 0,.slice none 0 0] 32)).alloc (.cells #[.slice none 0 0] 22)
theorem cb_start (w:World) (s:Sch) (b:Nat) (L:IL) (a:Nat) (ht:TapeIn w b L a) :CB w s b L a [] (.slice none 0 0) [] (.slice none 0 0) (w.heap.size+1+1+1+1) [] (.slice none 0 0) (cjX w s)∧Box (cjX w s) (w.heap.size+1+1) #[.int .i64 0,.slice none 0 0,.slice none 0 0] 32∧(cjX w s).heap.size=w.heap.size+1+1+1+1:=by
 unfold cjX
 have b1:=Box.new w #[.slice s.th.ao s.tabs.length s.th.cap] 27;have l1:=belA (w:=w) (.cells #[.slice s.th.ao s.tabs.length s.th.cap] 27)
 have s1:=World.size_alloc w (.cells #[.slice s.th.ao s.tabs.length s.th.cap] 27);generalize w.alloc (.cells #[.slice s.th.ao s.tabs.length s.th.cap] 27) =w1 at *;have b2:=Box.new w1 #[.int .i64 0,.slice none 0 0,.slice none 0 0] 32;have l2:=belA (w:=w1) (.cells #[.int .i64 0,.slice none 0 0,.slice none 0 0] 32)
 have s2:=World.size_alloc w1 (.cells #[.int .i64 0,.slice none 0 0,.slice none 0 0] 32);generalize w1.alloc (.cells #[.int .i64 0,.slice none 0 0,.slice none 0 0] 32) =w2 at *;have b3:=Box.new w2 #[.int .i64 0,.slice none 0 0,.slice none 0 0] 32;have l3:=belA (w:=w2) (.cells #[.int .i64 0,.slice none 0 0,.slice none 0 0] 32)
 have s3:=World.size_alloc w2 (.cells #[.int .i64 0,.slice none 0 0,.slice none 0 0] 32);generalize w2.alloc (.cells #[.int .i64 0,.slice none 0 0,.slice none 0 0] 32) =w3 at *;have b4:=Box.new w3 #[.slice none 0 0] 22;have l4:=belA (w:=w3) (.cells #[.slice none 0 0] 22)
 have s4:=World.size_alloc w3 (.cells #[.slice none 0 0] 22);generalize w3.alloc (.cells #[.slice none 0 0] 22) =w4 at *;rw [s3,s2,s1]at b4 s4;rw [s2,s1]at b3;rw [s1]at b2;have hb:=bT l1 (bT l2 (bT l3 l4));exact⟨⟨⟨only_below hb _,Nat.le_refl _,ht.low,ht.mono hb,b4,by omega,World.ownsRow_nil _ _ _ _,fun _ h=>absurd h List.not_mem_nil⟩,((b1.below l2).below l3).below l4,(b2.below l3).below l4,World.ownsRow_nil _ _ _ _,fun _ h=>absurd h List.not_mem_nil,World.ownsRow_nil _ _ _ _,by omega⟩,b3.below l4,s4⟩
theorem conj_any (s:Sch) (w:World) (b:Nat) (L:IL) (a n:Nat) (ht:TapeIn w b L a) (ha:a≤4611686018427380000) (hsi: ∀z,w.grownBy z (some b)→s.In z) (hp:PSch s) (h3: ∀t∈s.tabs,t.cols.length≤3) (hn:1≤n∧n≤4) :
  Calls Tryz.prog 9 #[.pointer (some ⟨b,0,none⟩),.agg #[.slice s.th.ao s.tabs.length s.th.cap],.int .i64 (n:Nat)] w (CjPost w b L a (colT s) n):=by
 obtain⟨hcb,hbq,hsz⟩:=cb_start w s b L a ht;have HCB:=ai hcb;have HBQ:=ai hbq;have HSZ:=ai hsz;have HSI:=ai hsi;have HPS:=ai hp;have H3:=ai h3;have hpa:=pos_le L a;have hr:=fmod_ok (x:=rawAt L a) (n:=((n:Nat) :Int) - 1+1) (by omega)
 obtain⟨n0,hn0⟩ : ∃m:Nat,(1:Int) +nAt L a ((n:Int) - 1+1) = (m:Int):=⟨(1+nAt L a ((n:Int) - 1+1)).toNat,by unfold nAt;omega⟩
 have hnr:1≤n0∧n0≤n:=by unfold nAt at hn0;omega
 have HN0:=ai hn0;clear ht hsi hp h3 hcb hbq hsz hr hn0
 go_enter Tryz.func9,Tryz.ntmps9;go_upto_region 3 with fail
 unfold cjX at HCB HBQ HSZ
 generalize (((w.alloc (.cells #[.slice s.th.ao s.tabs.length s.th.cap] 27)).alloc (.cells #[.int .i64 0,.slice none 0 0,.slice none 0 0] 32)).alloc (.cells #[.int .i64 0,.slice none 0 0,.slice none 0 0] 32)).alloc (.cells #[.slice none 0 0] 22) =X at *;go_wp2_with (go_at_call 38;refine(range_any _ b a L 1 (n:Nat) HCB.o.ts.tp (by omega) (by omega)).mono ?_;rintro e y ⟨rfl,h1,h2⟩;rw [HN0.o];have HC1:=ai (HCB.o.tape h2 h1);have HB1:=ai (HBQ.o.grown h2 (by have:=HCB.o.bw;intro e;injection e with e;omega));have HS1:=ai h2.size;clear h1 h2)
 have HWN:=ai (show w.heap.size+1+1+1+1≤y.heap.size from by have h1:=HSZ.o;have h2:=HS1.o;omega)
 have HD0:=ai (Dat.start (colT s) []);have HA0:=ai (show posAt L a≤a+1+12*0 from by omega)
 clear HCB HBQ HSZ HS1;go_loopw [9] (fun i wr=>∃(k:Nat) (a1:Nat) (ts:List Int) (lv:Value) (lits:List Li) (ql:Value) (B1:Nat),i = .int .i64 (k:Nat)∧k+lits.length=n0∧Hid (CB w s b L a1 ts lv lits ql B1 [] (.slice none 0 0) wr)∧Hid (Box wr (w.heap.size+1+1) #[.int .i64 0,ql,.slice none 0 0] 32)∧Hid (Dat (colT s) ts lits [] [])∧Hid (a1≤a+1+12*lits.length)∧Hid (w.heap.size+1+1+1+1≤wr.heap.size)) (fun i _=>(intOf i).toNat)
 case atStart=>exact⟨n0,_,[],_,[],_,_,rfl,rfl,HC1.o,HB1.o,HD0.o,HA0.o,HWN.o⟩
 clear HC1 HB1 HD0 HA0 HWN
 case round=>
  obtain⟨k,a1,ts,lv,lits,ql,B1,rfl,hk,HC,HB,HD,HA,HWN⟩:=hrel;by_cases hkp:0<k
  ·have hkpi: (0:Int) < (k:Int):=by omega
   have hlt4:lits.length≤3:=by omega
   have hin:=HSI.o _ HC.o.ts.gb;have htn:=hin.rt.len;have ht1:=HPS.o.n1;have ht6:=HPS.o.n6;have HAB:=ai (show a1≤4611686018427381000 from by have:=HA.o;omega)
   have hr:=fmod_ok (x:=rawAt L a1) (n:=(s.tabs.length:Int)) (by omega)
   obtain⟨tb,htb,htbn⟩ : ∃t:Nat,t<s.tabs.length∧nAt L a1 (s.tabs.length:Int) = (t:Int):=⟨(nAt L a1 (s.tabs.length:Int)).toNat,by unfold nAt;omega,by unfold nAt;omega⟩
   have HTB:=ai htbn;clear hr htbn hin;have y0:wr.cell? ⟨w.heap.size,0,none⟩ =some (.slice s.th.ao s.tabs.length s.th.cap):=HC.o.bs.cell rfl;have h64:int64 (s.tabs.length:Int):=by constructor<;>omega
   go_upto_region 7 with(go_at_call 10;refine(n_any _ b a1 L s.tabs.length HC.o.ts.tp (by have:=HAB.o;omega) h64).mono ?_;rintro e y1 ⟨rfl,h1,h2⟩;rw [HTB.o];have HC2:=ai (HC.o.tape h2 h1);have HB2:=ai (HB.o.grown h2 (by have:=HC.o.bw;intro e;injection e with e;omega));have HW2:=ai (Nat.le_trans HWN.o h2.size);clear h1 h2 y0)
   obtain⟨nm,ch,cols,ph,ht2,_,hpc⟩:=HPS.o.pl _ (List.getElem_mem htb);have hc3:cols.length≤3:=by have:=H3.o _ (List.getElem_mem htb);rw [ht2]at this;exact this
   have HTY:=ai (show(colT s)[tb]? = some (cols.map Col.typ)from by rw [colT_at htb,ht2])
   have HPC:=ai hpc;have HSR:=ai (fun z (hz:w.grownBy z (some b))=>And.intro ((HSI.o z hz).rt.ix htb Tryz.underlying25 sz22) (And.intro (tab_at (HSI.o z hz).rt htb) ((HSI.o z hz).rt.blk htb)))
   have HTI:=ai (fun z (hz:w.grownBy z (some b))=>(HSI.o z hz).ts _ (List.getElem_mem htb))
   rw [ht2]at HSR HTI;have HTBL:=ai htb;clear ht2 hpc htb;obtain⟨V,hV⟩ : ∃V,y1.alloc (.cells #[.int .i64 (tb:Nat),.slice none 0 0] 56) =V:=⟨_,rfl⟩;obtain⟨hvb,hvl⟩:=box1X hV;have HLP:=ai (show LP w s b L (posAt L a1) ts lv lits ql y1.heap.size [] (.slice none 0 0) y1.heap.size tb V from
    ⟨(HC2.o.rebase (Nat.le_refl _)).below hvl,HB2.o.below hvl,hvb,fun e=>by have:=(HC2.o.ol.lt _ e).2;omega,by have:=HW2.o;omega⟩)
   have HVS:=ai (show y1.heap.size<V.heap.size from hvb.lt)
   rw [hV];clear hV hvb hvl HC2 HB2;have v0:V.cell? ⟨w.heap.size,0,none⟩ =some (.slice s.th.ao s.tabs.length s.th.cap):=HLP.o.cb.bs.cell rfl;have v1:V.cell? ⟨y1.heap.size,0,none⟩ =some (.int .i64 (tb:Nat)):=HLP.o.bl.cell rfl;have v2:=(HSR.o V HLP.o.cb.ts.gb).2.1.2.1;have hix:=(HSR.o V HLP.o.cb.ts.gb).1;have hbk:=(HSR.o V HLP.o.cb.ts.gb).2.2;have hcn:=(HTI.o V HLP.o.cb.ts.gb).rc.len;have HD2:=ai (HD.o.ty (ty2:=cols.map Col.typ))
   have HA2:=ai (show posAt L a1≤a+1+12*lits.length+1+3*0 from by have h1:=HA.o;have h2:=pos_le L a1;omega)
   go_wp2;clear v0 v1 v2 hix hbk HD HA HWN HC HB;generalize y1.heap.size=lx at *;go_loopw [35] (fun i wr=>∃(j a2:Nat) (ts2:List Int) (lv2:Value) (cur:List (Tm Go.Proofs.YtiijaaohphokcaaGreatDoor.V)) (cl:Value),j≤cols.length∧i = .int .i64 (j:Nat)∧cur.length=j∧Hid (LP w s b L a2 ts2 lv2 lits ql lx cur cl lx tb wr)∧Hid (Dat (colT s) ts2 lits (cols.map Col.typ) cur)∧Hid (a2≤a+1+12*lits.length+1+3*j)) (fun i _=>cols.length - (intOf i).toNat)
   case atStart=>exact⟨0,_,ts,lv,[],_,Nat.zero_le _,rfl,rfl,HLP.o,HD2.o,HA2.o⟩
   clear HLP HD2 HA2
   case round=>
    obtain⟨j,a2,ts2,lv2,cur,cl,hj,rfl,hcj,HLP,HD,HA⟩:=hrel;by_cases hlt:j<cols.length
    ·have hrc:=(HTI.o _ HLP.o.cb.ts.gb).rc
     have hixc:=hrc.ix hlt Tryz.underlying73 sz30;obtain⟨d0,d1,d2⟩:=col_at hrc hlt;have hbc:=hrc.blk hlt;have HCT:=ai (HPC.o.ty _ (List.getElem_mem hlt));have HTJ:=ai (show(cols.map Col.typ)[cur.length]? = some (cols[j]).typ from by rw [hcj,List.getElem?_map,List.getElem?_eq_getElem hlt];rfl)
     obtain⟨c,hc⟩ : ∃c,cols[j] =c:=⟨_,rfl⟩;rw [hc]at d0 d1 d2 HCT HTJ;clear hc hrc;have HLT:=ai hlt;obtain⟨VV,hVV⟩ : ∃VV,wr.alloc (.cells #[.string c.name,.int .i64 c.typ,.bool c.nul] 72) =VV:=⟨_,rfl⟩;obtain⟨hvb,hvl⟩:=box1X hVV;have hlw:=HLP.o.bl.lt;have hlo:=HLP.o.lo;have HLV:=ai (HLP.o.below hvl);have HG:=ai (show LG w s b L a2 ts2 lv2 lits ql lx cur cl lx tb wr.heap.size c false VV.drew from
      ⟨fun _=>⟨HLV.o.below ((Below.refl _ _).drew),hvb.below ((Below.refl _ _).drew),by omega⟩,HLV.o.bl.below ((Below.refl _ _).drew),hvb.below ((Below.refl _ _).drew)⟩)
     have HAJ:=ai (show a2≤4611686018427387000 from by have:=HA.o;omega)
     have HTSJ:=ai (show ts2.length≤900 from by have:=HD.o.ln;omega)
     have HCUJ:=ai (show cur.length≤1000 from by omega)
     clear hvb hvl hlw hlo;go_wp2
     try rw [hVV]
     clear hVV hixc d0 d1 d2 hbc;refine cj_reg10 (w:=w) (sc:=s) (b:=b) (a:=a2) (B1:=lx) (lx:=lx) (tab:=tb) (cx:=wr.heap.size) (L:=L) (ts:=ts2) (lv:=lv2) (ql:=ql) (cl:=cl) (lits:=lits) (cur:=cur) (co:=c) HCT HAJ HTSJ HCUJ (ai ⟨Nat.le_succ _⟩) HG ?hc ?hend
     case hc=>rfl
     case hend=>
      intro t5 b6 t6 a3 ts3 lv3 g4 cap4 x3 hx3 ha3 htr hok hwf;have HX:=ai hx3;have HD3:=ai (HD.o.slot HTJ.o htr hok hwf);have HA3:=ai (show a3≤a+1+12*lits.length+1+3* (j+1)from by have:=HA.o;omega)
      clear hx3 ha3 htr hok hwf HG HLV HLP HD HA;go_wp2;go_roundw
      case rel=>exact⟨j+1,a3,ts3,lv3,cur ++ [t6],_,HLT.o,by go_num,by rw [List.length_append,hcj];rfl,HX.o,HD3.o,HA3.o⟩
      case measure=>have:=HLT.o;simp [intOf];omega
    ·obtain rfl:j=cols.length:=by omega
     obtain⟨⟨ao,cp⟩,hclv,_⟩:=own_row (size:=4) (cells:=Tm.cells) Tm.cells_len (by decide) HLP.o.cb.oc
     have hclv:cl = .slice ao cur.length cp:=hclv;subst hclv;have hcl1:=HPC.o.l1;have HCJ:=ai hcj;have hc4:cur.length≤3:=by omega
     have hc5:0<cur.length:=by omega
     clear hcj;obtain⟨i0,hi,hz0,hz1,hz2⟩:=info_parts info_lit;have x0:wr.cell? ⟨lx,0,none⟩ =some (.int .i64 (tb:Nat)):=HLP.o.bl.cell rfl;have x1:wr.cell? ⟨lx,1,none⟩ =some (.slice ao cur.length cp):=HLP.o.bl.cell rfl;have x2:wr.cell? ⟨w.heap.size+1+1,1,none⟩ =some ql:=HLP.o.bq.cell rfl;have HLPA:=ai (HLP.o.below (belA (w:=wr) (.cells #[.int .i64 (tb:Nat),.slice ao cur.length cp] 56)))
     have hwl:w.heap.size≤wr.heap.size+1:=by have:=HLP.o.bl.lt;have:=HLP.o.lo;omega
     go_wp2_with (at_builtin;(refine wpList_append_own _ rfl _ _ 29 rfl w.heap.size 56 i0 (.agg #[.int .i64 0,.slice none 0 0]) 2 32 Tryz.underlying29 hi hz0 hz1 hz2 rfl (by decide) ql lits.length _ rfl HLPA.o.cb.ol ⟨wr.heap.size,0,none⟩ 1 1 [.int .i64 (tb:Nat),.slice ao cur.length cp] rfl rfl ?c1 ?c2 ?c3 ?c4 ?c5 ?_))
     case c1=>exact new_cells (l:= [_,_])
     case c2=>exact two_one rfl rfl
     case c3=>unfold maxLen;omega
     case c4=>omega
     case c5=>simp;omega
     intro v2 z2 hown hgr _;obtain⟨g4,cap4,rfl⟩:=ownsRow_succ hown;have hcb2:=HLPA.o.cb.lit (l:=⟨tb,⟨⟨ao,cp⟩,cur⟩⟩) hgr hown ⟨rfl,rfl,hc5⟩
     have hbq2:=HLPA.o.bq.grown hgr (fun e=>HLPA.o.cb.ql_ne (TyAt.box HLPA.o.bq) (by decide) e.symm)
     have hwz:w.heap.size+1+1+1+1≤z2.heap.size:=by have h1:=HLPA.o.lo;have h2:=HLPA.o.bl.lt;have h3:=hgr.size;omega
     have HB3:=ai (show Box (z2.setCell ⟨w.heap.size+1+1,1,none⟩ (.slice (some ⟨g4,0,none⟩) (lits.length+1) cap4)) (w.heap.size+1+1) #[.int .i64 0,.slice (some ⟨g4,0,none⟩) (lits.length+1) cap4,.slice none 0 0] 32 from by
      have:=hbq2.set 1 (.slice (some ⟨g4,0,none⟩) (lits.length+1) cap4)
      simpa only [List.setIfInBounds_toArray,List.set_cons_zero,List.set_cons_succ]using this)
     have HC3:=ai (hcb2.storeT (by omega) (by omega) (TyAt.box hbq2) (hcb2.ql_ne (TyAt.box hbq2) (by decide)) (by decide) (by decide) 1 (.slice (some ⟨g4,0,none⟩) (lits.length+1) cap4))
     have HD3:=ai ((HD.o.lit (hd:=⟨ao,cp⟩) HTY.o (by rw [List.length_map,HCJ.o]) (by omega) (by have:=HTBL.o;omega)).ty (ty2:= []))
     have HA3:=ai (show a2≤a+1+12* (lits.length+1)from by have:=HA.o;omega)
     have HW3:=ai (show w.heap.size+1+1+1+1≤(z2.setCell ⟨w.heap.size+1+1,1,none⟩ (.slice (some ⟨g4,0,none⟩) (lits.length+1) cap4)).heap.size from by simpa using hwz)
     have q1:=hbq2.cell (j:=1) (v:=ql) rfl
     have qf:=hbq2.fr 1;clear hown hgr hi hz0 hz1 hz2 hcb2 hbq2 hwz x0 x1 x2 HLPA HLP HD HA;go_wp2;go_roundw
     case rel=>exact⟨k - 1,a2,ts2,lv2,lits ++ [(⟨tb,⟨⟨ao,cp⟩,cur⟩⟩ :Li)],_,_,by go_num,by rw [List.length_append];simp only [List.length_cons,List.length_nil];omega,HC3.o,HB3.o,HD3.o,by rw [List.length_append];exact HA3.o,HW3.o⟩
     case measure=>simp [intOf];omega
  ·obtain rfl:k=0:=by omega
   have hl1:1≤lits.length:=by omega
   have hl4:lits.length≤n:=by omega
   obtain⟨hd,hlv,_⟩:=HC.o.ts.il;have HLV:=ai hlv;have x0:wr.cell? ⟨w.heap.size+1+1+1,0,none⟩ =some (.slice hd.ao ts.length hd.cap):=by rw [←hlv];exact HC.o.ts.bx.cell rfl
   have q0:wr.cell? ⟨w.heap.size+1+1,0,none⟩ =some (.int .i64 0):=HB.o.cell rfl;have qf:=HB.o.fr 0;have HC2:=ai (HC.o.storeT (by omega) (by omega) (TyAt.box HB.o) (HC.o.ql_ne (TyAt.box HB.o) (by decide)) (by decide) (by decide) 0 (.int .i64 (ts.length:Nat)))
   have HB2:=ai (show Box (wr.setCell ⟨w.heap.size+1+1,0,none⟩ (.int .i64 (ts.length:Nat))) (w.heap.size+1+1) #[.int .i64 (ts.length:Nat),ql,.slice none 0 0] 32 from by
    have:=HB.o.set 0 (.int .i64 (ts.length:Nat))
    simpa only [List.setIfInBounds_toArray,List.set_cons_zero,List.set_cons_succ]using this)
   have HTS:=ai (show ts.length≤900 from by have:=HD.o.ln;simp only [List.length_nil]at this;omega)
   have hts:=HTS.o;have hpa1:=pos_le L a1;have haa:=HA.o;have hr2:=fmod_ok (x:=rawAt L a1) (n:=(2:Int) - 1+1) (by omega)
   obtain⟨n1,hn1⟩ : ∃m:Nat,(1:Int) +nAt L a1 (2 - 1+1) = (m:Int):=⟨(1+nAt L a1 (2 - 1+1)).toNat,by unfold nAt;omega⟩
   have hnr1:1≤n1∧n1≤2:=by unfold nAt at hn1;omega
   have HN1:=ai hn1;clear hlv hr2 hn1 HC HB;go_wp2_with (go_at_call 38;refine(range_any _ b a1 L 1 2 HC2.o.ts.tp (by omega) (by omega)).mono ?_;rintro e y2 ⟨rfl,h1,h2⟩;rw [HN1.o];have HC3:=ai (HC2.o.tape h2 h1);have HB3:=ai (HB2.o.grown h2 (by have:=HC2.o.bw;intro e;injection e with e;omega));clear h1 h2)
   have HH0:=ai (show HP w s b L (posAt L a1) ts lv lits ql y2.heap.size [] (.slice none 0 0) ts.length y2 from⟨HC3.o.rebase (Nat.le_refl _),HB3.o,Nat.le_refl _⟩)
   generalize y2.heap.size=B2 at *;clear HC3 HB3 HC2 HB2 x0 q0 qf;go_loopw [13] (fun i wr=>∃(k a2:Nat) (cur:List (Tm Go.Proofs.YtiijaaohphokcaaGreatDoor.V)) (cl:Value),i = .int .i64 (k:Nat)∧k+cur.length=n1∧Hid (HP w s b L a2 ts lv lits ql B2 cur cl ts.length wr)∧Hid (HdOk ts.length cur)∧Hid (a2≤a1+1+2*cur.length)) (fun i _=>(intOf i).toNat)
   case atStart=>exact⟨n1,_,[],_,rfl,rfl,HH0.o,fun _ h=>absurd h List.not_mem_nil,show posAt L a1≤a1+1+2*0 from by omega⟩
   clear HH0
   case round=>
    obtain⟨k,a2,cur,cl,rfl,hk,HH,HHD,HA2⟩:=hrel;have hpa2:=pos_le L a2;have haa2:=HA2.o;have hx0:wr.cell? ⟨w.heap.size+1+1+1,0,none⟩ =some (.slice hd.ao ts.length hd.cap):=by rw [←HLV.o];exact HH.o.cb.ts.bx.cell rfl
    by_cases hkp:0<k
    ·have hkpi: (0:Int) < (k:Int):=by omega
     have HK2:=ai (show cur.length≤1 from by omega)
     have hcu:=HK2.o;by_cases ht0:ts.length=0
     ·have h0b: ((ts.length:Int) == 0) =true:=beq_iff_eq.2 (by omega)
      go_wp2;have hm3:=fmod_ok (x:=rawAt L (a2)) (n:=3) (by omega)
      obtain⟨m,hm⟩ : ∃m,nAt L (a2) 3=m:=⟨_,rfl⟩;have HM:=ai hm;have HMR:=ai (show 0≤m∧m<3 from by rw [←hm];exact hm3)
      clear hm3 hm;refine cj_reg18 (w:=w) (sc:=s) (b:=b) (a:=a2) (B1:=B2) (nv:=ts.length) (L:=L) (ts:=ts) (lv:=lv) (ql:=ql) (cl:=cl) (lits:=lits) (cur:=cur) (m:=m) (ai (by omega)) (ai (by omega)) (ai (fun _ x h=>h.sz)) (ai ⟨by rw [if_neg (by decide)];exact HH.o.below ((Below.refl _ _).drew)⟩) HM ?hc ?hend
      case hc=>rfl
      case hend=>
       intro b6 g4 cap4 x3 hx3;have HX:=ai hx3;have hnv:=newI (n:=m) (by have:=HMR.o;omega)
       have HHD3:=ai (HHD.o.snoc (t:=.c ⟨1,m,⟨#[]⟩⟩) ⟨hnv.2.1,by show(1:Int)≠0;decide,by show(1:Int)≠2;decide⟩ hnv.2.2)
       have hpa3:=pos_le L (a2);clear hx3 hnv HH HHD;go_wp2;go_roundw
       case rel=>exact⟨k - 1,_,cur ++ [(.c ⟨1,m,⟨#[]⟩⟩ :Tm Go.Proofs.YtiijaaohphokcaaGreatDoor.V)],_,by go_num,by rw [List.length_append];simp only [List.length_cons,List.length_nil];omega,HX.o,HHD3.o,by rw [List.length_append];simp only [List.length_cons,List.length_nil];show posAt L (a2)≤_;omega⟩
       case measure=>simp [intOf];omega
     ·have h0b: ((ts.length:Int) == 0) =false:=beq_eq_false_iff_ne.2 (by omega)
      obtain⟨m6,hm6⟩ : ∃m,nAt L a2 6=m:=⟨_,rfl⟩;have HM6:=ai hm6;clear hm6;by_cases h5:m6=5
      ·have hb5: (m6 == 5) =true:=beq_iff_eq.2 h5
       clear h5;go_wp2_with (go_at_call 10;refine(n_any _ b a2 L 6 HH.o.cb.ts.tp (by omega) (by constructor<;>decide)).mono ?_;rintro e y3 ⟨rfl,h1,h2⟩;rw [HM6.o];have HH2:=ai (HH.o.tape h2 h1);clear h1 h2)
       have hm3:=fmod_ok (x:=rawAt L (posAt L a2)) (n:=3) (by omega)
       obtain⟨m,hm⟩ : ∃m,nAt L (posAt L a2) 3=m:=⟨_,rfl⟩;have HM:=ai hm;have HMR:=ai (show 0≤m∧m<3 from by rw [←hm];exact hm3)
       clear hm3 hm;refine cj_reg18 (w:=w) (sc:=s) (b:=b) (a:=posAt L a2) (B1:=B2) (nv:=ts.length) (L:=L) (ts:=ts) (lv:=lv) (ql:=ql) (cl:=cl) (lits:=lits) (cur:=cur) (m:=m) (ai (by omega)) (ai (by omega)) (ai (fun _ x h=>h.sz)) (ai ⟨by rw [if_neg (by decide)];exact HH2.o.below ((Below.refl _ _).drew)⟩) HM ?hc ?hend
       case hc=>rfl
       case hend=>
        intro b6 g4 cap4 x3 hx3;have HX:=ai hx3;have hnv:=newI (n:=m) (by have:=HMR.o;omega)
        have HHD3:=ai (HHD.o.snoc (t:=.c ⟨1,m,⟨#[]⟩⟩) ⟨hnv.2.1,by show(1:Int)≠0;decide,by show(1:Int)≠2;decide⟩ hnv.2.2)
        have hpa3:=pos_le L (posAt L a2);clear hx3 hnv HH HH2 HHD;go_wp2;go_roundw
        case rel=>exact⟨k - 1,_,cur ++ [(.c ⟨1,m,⟨#[]⟩⟩ :Tm Go.Proofs.YtiijaaohphokcaaGreatDoor.V)],_,by go_num,by rw [List.length_append];simp only [List.length_cons,List.length_nil];omega,HX.o,HHD3.o,by rw [List.length_append];simp only [List.length_cons,List.length_nil];show posAt L (posAt L a2)≤_;omega⟩
        case measure=>simp [intOf];omega
      ·have hb5: (m6 == 5) =false:=beq_eq_false_iff_ne.2 h5
       clear h5;have hmt:=fmod_ok (x:=rawAt L (posAt L a2)) (n:=(ts.length:Int)) (by omega)
       obtain⟨kk,hkk,hkn⟩ : ∃m:Nat,m<ts.length∧nAt L (posAt L a2) (ts.length:Int) = (m:Int):=⟨(nAt L (posAt L a2) (ts.length:Int)).toNat,by unfold nAt;omega,by unfold nAt;omega⟩
       have HKN:=ai hkn;clear hmt hkn;go_wp2_with (go_at_call 10;refine(n_any _ b a2 L 6 HH.o.cb.ts.tp (by omega) (by constructor<;>decide)).mono ?_;rintro e y3 ⟨rfl,h1,h2⟩;rw [HM6.o];have HH2:=ai (HH.o.tape h2 h1);clear h1 h2)
       refine cj_reg19 (w:=w) (sc:=s) (b:=b) (a:=posAt L a2) (B1:=B2) (nv:=ts.length) (L:=L) (ts:=ts) (lv:=lv) (ql:=ql) (cl:=cl) (lits:=lits) (cur:=cur) (k:=kk) (hd:=hd) (ai (by omega)) (ai (by omega)) (ai (fun _ x h=>h.sz)) (ai ⟨by rw [if_neg (by decide)];exact HH2.o.below ((Below.refl _ _).drew)⟩) HKN HTS HLV ?hc ?hend
       case hc=>rfl
       case hend=>
        intro b7 g4 cap4 x3 hx3;have HX:=ai hx3;have HHD3:=ai (HHD.o.snoc (t:=.v kk) hkk (show kk≤1000 by omega))
        have hpa3:=pos_le L (posAt L a2);clear hx3 HH HH2 HHD;go_wp2;go_roundw
        case rel=>exact⟨k - 1,_,cur ++ [(.v kk:Tm Go.Proofs.YtiijaaohphokcaaGreatDoor.V)],_,by go_num,by rw [List.length_append];simp only [List.length_cons,List.length_nil];omega,HX.o,HHD3.o,by rw [List.length_append];simp only [List.length_cons,List.length_nil];show posAt L (posAt L a2)≤_;omega⟩
        case measure=>simp [intOf];omega
    ·obtain rfl:k=0:=by omega
     have q0:wr.cell? ⟨w.heap.size+1+1,0,none⟩ =some (.int .i64 (ts.length:Nat)):=HH.o.bq.cell rfl;obtain⟨qhd,chd,hq,hc,hIN⟩:=cj_done HH.o HD.o HHD.o (by omega)
     have HIN:=ai hIN;clear hIN;subst hq;subst hc;have q1:wr.cell? ⟨w.heap.size+1+1,1,none⟩ =some (.slice qhd.ao lits.length qhd.cap):=HH.o.bq.cell rfl;have q2:wr.cell? ⟨w.heap.size+1+1,2,none⟩ =some (.slice chd.ao cur.length chd.cap):=HH.o.bq.cell rfl;have r0:wr.cell? ⟨w.heap.size+1,0,none⟩ =some (.int .i64 0):=HH.o.cb.br.cell rfl;have r1:wr.cell? ⟨w.heap.size+1,1,none⟩ =some (.slice none 0 0):=HH.o.cb.br.cell rfl;have r2:wr.cell? ⟨w.heap.size+1,2,none⟩ =some (.slice none 0 0):=HH.o.cb.br.cell rfl;have f0:=HH.o.cb.br.fr 0;have f1:=HH.o.cb.br.fr 1;have f2:=HH.o.cb.br.fr 2;have HG:=ai (set3 wr (w.heap.size+1) (.int .i64 (ts.length:Nat)) (.slice qhd.ao lits.length qhd.cap) (.slice chd.ao cur.length chd.cap));have HCN:=ai (show 0<cur.length∧cur.length≤24 from by omega)
     have HLN:=ai (And.intro hl1 hl4);have HAL:=ai (show a2≤a+100 from by omega)
     go_wp2;have HF:CjPost w b L a (colT s) n (.returned (.agg #[.int .i64 (ts.length:Nat),.slice qhd.ao lits.length qhd.cap,.slice chd.ao cur.length chd.cap])) (((wr.setCell ⟨w.heap.size+1,0,none⟩ (.int .i64 (ts.length:Nat))).setCell ⟨w.heap.size+1,1,none⟩ (.slice qhd.ao lits.length qhd.cap)).setCell ⟨w.heap.size+1,2,none⟩ (.slice chd.ao cur.length chd.cap)):=by
      refine⟨⟨ts.length,qhd,lits,⟨chd,cur⟩⟩,a2,rfl,⟨HIN.o _ (fun g h1 h2=>HG.o.block g h2 (fun e=>by injection e with e;exact h1 e)) HG.o.size,⟨_,HD.o.right (by omega) (by omega) rfl rfl HHD.o HCN.o.1 HCN.o.2⟩,fun ty hty=> ?_⟩,tz2 HH.o.cb.ts.tp HG.o HH.o.cb.ts.ll (by omega),HAL.o,gb_then HH.o.cb.ts.gb HG.o (by omega),HLN.o.2⟩
      obtain⟨t,ht,rfl⟩:=List.mem_map.1 hty;rw [List.length_map];exact Nat.le_trans (H3.o t ht) (by decide)
     refine bodyPost_ret (v:=.agg #[.int .i64 (ts.length:Nat),.slice qhd.ao lits.length qhd.cap,.slice chd.ao cur.length chd.cap]) ?_ ?_ ?_
     case refine_3=>exact HF
     case refine_2=>rfl
     simp [results,Tryz.results9,go_sem,r0,r1,r2]
end Go.Proofs.YtiijaaohphokcaaGreatDoor

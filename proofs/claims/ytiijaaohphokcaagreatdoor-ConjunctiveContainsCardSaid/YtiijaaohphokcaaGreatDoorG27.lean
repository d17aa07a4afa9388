/- querylabfield.Weaker: the region that chooses a literal. -/
import Derived.Test.YtiijaaohphokcaaGreatDoorCjL1K
set_option maxRecDepth 100000
set_option maxHeartbeats 16000000
namespace Go.Proofs.YtiijaaohphokcaaGreatDoor
open Go.RowKit
structure WG (W:World) (g5:Nat) (q:Cq) (b:Nat) (L:IL) (a B:Nat) (bb:Bool) (x:World) :Prop where
 gb:W.grownBy x (some b)
 bq:Box x g5 (qcells q) 32
 tp:TapeIn x b L (if bb=true then posAt L a else a)
 qi:q.In x B
 lt:b<B
 ne:g5≠b
theorem WG.below {W:World} {g5:Nat} {q:Cq} {b:Nat} {L:IL} {a B:Nat} {bb:Bool} {x y:World} (h:WG W g5 q b L a B bb x) (hb:Below x.heap.size x y) :WG W g5 q b L a B bb y:=⟨gb_bel h.gb hb,h.bq.below hb,h.tp.mono hb,h.qi.mono hb,h.lt,h.ne⟩
theorem wk_reg3 {g5:Nat} {q:Cq} {b:Nat} {L:IL} {a B j:Nat} {l:Li} {W:World} (HA:Hid (a≤4611686018427387000)) (HLN:Hid (q.lits.length≤1000)) (HM:Hid (nAt L a q.lits.length= (j:Int))) (HJ:Hid (j<q.lits.length)) (HL:Hid (q.lits[j]'HJ.o=l)) (HG0:Hid (WG W g5 q b L a B false W.drew)) {Q:Exit→Act→World→Prop} {c:Code} {u1 u2 u3 u4 u6 u7 u8 u9 u10 u11 u12 u13 u14 u15 u16 u17 u18 u19 u20 u21 u22 u23 u24 u25 u26 u27 u28 u29 u30 u31 u32 u33 u34 u35 u36 u37 u38 u39 u40 u41 u42 u43 u44 u45 u46 u47 u48 u49 u50 u51 u52 u53 u54 u55 u56 u57 u58 u59 u60 u61 u62 u63 u64 u65 u66 u67 u68 u69 u70 u71 u72 u73 u74 u75:Value} (hc:c=codeIn [1,1,0,1,2,0] wkBody) (hend: ∀b9 x,W.grownBy x (some b)→TapeIn x b L (posAt L a)→Box x b9 #[.int .i64 0,.slice none 0 0] 56→W.heap.size≤b9→b9≠b→Q .normal { tmps:=((.pointer (some ⟨b,0,none⟩)) :: u1 :: u2 :: u3 :: u4 :: (.pointer (some ⟨g5,0,none⟩)) :: u6 :: u7 :: .pointer (some ⟨b9,0,none⟩) :: u9 :: u10 :: u11 :: u12 :: u13 :: u14 :: u15 :: u16 :: u17 :: u18 :: u19 :: u20 :: u21 :: u22 :: u23 :: u24 :: u25 :: u26 :: u27 :: u28 :: .pointer (some ⟨g5,1,none⟩) :: .slice q.lh.ao q.lits.length q.lh.cap :: .pointer (some ⟨b,0,none⟩) :: .pointer (some ⟨g5,1,none⟩) :: .slice q.lh.ao q.lits.length q.lh.cap :: .int .i64 (q.lits.length:Nat) :: .int .i64 (j:Nat) :: .pointer (some ⟨q.lh.b,q.lh.o+j*2,none⟩) :: .agg #[.int .i64 (l.tab:Nat),.slice l.sl.h.ao l.sl.l.length l.sl.h.cap] :: u38 :: u39 :: u40 :: u41 :: u42 :: u43 :: u44 :: u45 :: u46 :: u47 :: u48 :: u49 :: u50 :: u51 :: u52 :: u53 :: u54 :: u55 :: u56 :: u57 :: u58 :: u59 :: u60 :: u61 :: u62 :: u63 :: u64 :: u65 :: u66 :: u67 :: u68 :: u69 :: u70 :: u71 :: u72 :: u73 :: u74 :: u75 :: []).toArray,defers:= [] } ((x.setCell ⟨b9,0,none⟩ (.int .i64 (l.tab:Nat))).setCell ⟨b9,1,none⟩ (.slice l.sl.h.ao l.sl.l.length l.sl.h.cap))) :Code.wp Tryz.prog c Q { tmps:=((.pointer (some ⟨b,0,none⟩)) :: u1 :: u2 :: u3 :: u4 :: (.pointer (some ⟨g5,0,none⟩)) :: u6 :: u7 :: u8 :: u9 :: u10 :: u11 :: u12 :: u13 :: u14 :: u15 :: u16 :: u17 :: u18 :: u19 :: u20 :: u21 :: u22 :: u23 :: u24 :: u25 :: u26 :: u27 :: u28 :: u29 :: u30 :: u31 :: u32 :: u33 :: u34 :: u35 :: u36 :: u37 :: u38 :: u39 :: u40 :: u41 :: u42 :: u43 :: u44 :: u45 :: u46 :: u47 :: u48 :: u49 :: u50 :: u51 :: u52 :: u53 :: u54 :: u55 :: u56 :: u57 :: u58 :: u59 :: u60 :: u61 :: u62 :: u63 :: u64 :: u65 :: u66 :: u67 :: u68 :: u69 :: u70 :: u71 :: u72 :: u73 :: u74 :: u75 :: []).toArray,defers:= [] } W:=by
 subst hc;conv=>enter [2];whnf
 refine wp_region_tailG (by kernel_rfl) (by kernel_rfl) 10 (by show 10<_;decide) (by kernel_rfl) (by kernel_rfl) (fun s:Nat→Value=>({ tmps:=((.pointer (some ⟨b,0,none⟩)) :: u1 :: u2 :: u3 :: u4 :: (.pointer (some ⟨g5,0,none⟩)) :: u6 :: u7 :: s 8 :: u9 :: u10 :: u11 :: u12 :: u13 :: u14 :: u15 :: u16 :: u17 :: u18 :: u19 :: u20 :: u21 :: u22 :: u23 :: u24 :: u25 :: u26 :: u27 :: u28 :: s 29 :: s 30 :: s 31 :: s 32 :: s 33 :: s 34 :: s 35 :: s 36 :: s 37 :: u38 :: u39 :: u40 :: u41 :: u42 :: u43 :: u44 :: u45 :: u46 :: u47 :: u48 :: u49 :: u50 :: u51 :: u52 :: u53 :: u54 :: u55 :: u56 :: u57 :: u58 :: u59 :: u60 :: u61 :: u62 :: u63 :: u64 :: u65 :: u66 :: u67 :: u68 :: u69 :: u70 :: u71 :: u72 :: u73 :: u74 :: u75 :: []).toArray,defers:= [] } : Act)) (fun k=>if k=29 then u29 else if k=30 then u30 else if k=31 then u31 else if k=32 then u32 else if k=33 then u33 else if k=34 then u34 else if k=35 then u35 else if k=36 then u36 else if k=37 then u37 else if k=8 then u8 else undef) rfl 6 (by decide) (fun x y=>x.grownBy y (some b)) (WG W g5 q b L a B) ?g0 (fun i v x=>(i=9→∃b9,v = .pointer (some ⟨b9,0,none⟩)∧Box x b9 #[.int .i64 0,.slice none 0 0] 56∧W.heap.size≤b9∧b9≠b)∧(i≠9→([.pointer (some ⟨g5,1,none⟩),.slice q.lh.ao q.lits.length q.lh.cap,.pointer (some ⟨b,0,none⟩),.pointer (some ⟨g5,1,none⟩),.slice q.lh.ao q.lits.length q.lh.cap,.int .i64 (q.lits.length:Nat),.int .i64 (j:Nat),.pointer (some ⟨q.lh.b,q.lh.o+j*2,none⟩),.agg #[.int .i64 (l.tab:Nat),.slice l.sl.h.ao l.sl.l.length l.sl.h.cap],undef] :List Value)[i]? = some v)) (fun i v x y h hb=>⟨fun hi=>(by obtain⟨b9,h0,q0,q1,q2⟩:=h.1 hi;exact⟨b9,h0,q0.grown hb (by intro e;injection e with e;exact q2 e),q1,q2⟩),h.2⟩) (fun i=>([29,30,31,32,33,34,35,36,37,8] :List Nat).getD i 0) ?inj ?step ?last
 case g0=>exact HG0.o
 case inj=>
  intro i j hi hj h;have hI:i=0∨i=1∨i=2∨i=3∨i=4∨i=5∨i=6∨i=7∨i=8∨i=9:=by omega
  have hJ:j=0∨j=1∨j=2∨j=3∨j=4∨j=5∨j=6∨j=7∨j=8∨j=9:=by omega
  rcases hI with rfl|rfl|rfl|rfl|rfl|rfl|rfl|rfl|rfl|rfl<;>rcases hJ with rfl|rfl|rfl|rfl|rfl|rfl|rfl|rfl|rfl|rfl<;>first|rfl| (exact absurd h (by decide))
 case last=>
  intro s x hv hgt;have HG:=ai hgt;clear hgt;have z0:s 29 = .pointer (some ⟨g5,1,none⟩):=by have h:=(hv 0 (by decide)).2 (by decide);injection h with h;exact h.symm
  have z1:s 30 = .slice q.lh.ao q.lits.length q.lh.cap:=by have h:=(hv 1 (by decide)).2 (by decide);injection h with h;exact h.symm
  have z2:s 31 = .pointer (some ⟨b,0,none⟩):=by have h:=(hv 2 (by decide)).2 (by decide);injection h with h;exact h.symm
  have z3:s 32 = .pointer (some ⟨g5,1,none⟩):=by have h:=(hv 3 (by decide)).2 (by decide);injection h with h;exact h.symm
  have z4:s 33 = .slice q.lh.ao q.lits.length q.lh.cap:=by have h:=(hv 4 (by decide)).2 (by decide);injection h with h;exact h.symm
  have z5:s 34 = .int .i64 (q.lits.length:Nat):=by have h:=(hv 5 (by decide)).2 (by decide);injection h with h;exact h.symm
  have z6:s 35 = .int .i64 (j:Nat):=by have h:=(hv 6 (by decide)).2 (by decide);injection h with h;exact h.symm
  have z7:s 36 = .pointer (some ⟨q.lh.b,q.lh.o+j*2,none⟩):=by have h:=(hv 7 (by decide)).2 (by decide);injection h with h;exact h.symm
  have z8:s 37 = .agg #[.int .i64 (l.tab:Nat),.slice l.sl.h.ao l.sl.l.length l.sl.h.cap]:=by have h:=(hv 8 (by decide)).2 (by decide);injection h with h;exact h.symm
  obtain⟨b9,hz9,hg9_0,hg9_1,hg9_2⟩:=(hv 9 (by decide)).1 rfl
  have z9:s 8 = .pointer (some ⟨b9,0,none⟩):=hz9;clear hz9;clear hv;have htp:=HG.o.tp;rw [if_pos rfl]at htp;have HTP:=ai htp;have o0:=hg9_0.cell (j:=0) rfl
  have o1:=hg9_0.cell (j:=1) rfl
  have f0:=hg9_0.fr 0;have f1:=hg9_0.fr 1;have HBX:=ai hg9_0;clear hg9_0 htp
  show Oper.wp _ _ _ _ _ _
  refine opwp_K (fun K2 hK2=> ?_)
  go_simp
  refine hK2 _ _ ?_
  show Q _ _ _
  have h:=hend b9 x HG.o.gb HTP.o HBX.o hg9_1 hg9_2
  first|exact h| (simp only [z0,z1,z2,z3,z4,z5,z6,z7,z8,z9];exact h)
 case step=>
  intro i o s x hin ho he bb hgb hbf hbt;have HG:=ai hgb;clear hgb;have hcase:i=0∨i=1∨i=2∨i=3∨i=4∨i=5∨i=6∨i=7∨i=8∨i=9:=by omega
  rcases hcase with rfl|rfl|rfl|rfl|rfl|rfl|rfl|rfl|rfl|rfl
  ·injection ho with ho
   subst ho;clear he hbf hbt;refine opwp_K (fun K2 hK2=> ?_)
   go_simp
   exact hK2 _ _ ⟨(.pointer (some ⟨g5,1,none⟩)),(by first|rfl| (simp [List.getD];done)),World.grownBy.refl _ _,gIf_ne (G:=WG W g5 q b L a B) (by decide) HG.o,⟨fun h=>absurd h (by decide),fun _=>rfl⟩⟩
  ·injection ho with ho
   subst ho;have z0:s 29 = .pointer (some ⟨g5,1,none⟩):=by have h:=(he ⟨0,.data⟩ (by simp) rfl).2 (by decide);injection h with h;exact h.symm
   clear he hbf hbt;have k1:=HG.o.bq.cell (j:=1) rfl
   refine opwp_K (fun K2 hK2=> ?_)
   go_simp
   exact hK2 _ _ ⟨(.slice q.lh.ao q.lits.length q.lh.cap),(by first|rfl| (simp [z0];done)),World.grownBy.refl _ _,gIf_ne (G:=WG W g5 q b L a B) (by decide) HG.o,⟨fun h=>absurd h (by decide),fun _=>rfl⟩⟩
  ·injection ho with ho
   subst ho;clear he hbf hbt;refine opwp_K (fun K2 hK2=> ?_)
   go_simp
   exact hK2 _ _ ⟨(.pointer (some ⟨b,0,none⟩)),(by first|rfl| (simp [List.getD];done)),World.grownBy.refl _ _,gIf_ne (G:=WG W g5 q b L a B) (by decide) HG.o,⟨fun h=>absurd h (by decide),fun _=>rfl⟩⟩
  ·injection ho with ho
   subst ho;clear he hbf hbt;refine opwp_K (fun K2 hK2=> ?_)
   go_simp
   exact hK2 _ _ ⟨(.pointer (some ⟨g5,1,none⟩)),(by first|rfl| (simp [List.getD];done)),World.grownBy.refl _ _,gIf_ne (G:=WG W g5 q b L a B) (by decide) HG.o,⟨fun h=>absurd h (by decide),fun _=>rfl⟩⟩
  ·injection ho with ho
   subst ho;have z3:s 32 = .pointer (some ⟨g5,1,none⟩):=by have h:=(he ⟨3,.data⟩ (by simp) rfl).2 (by decide);injection h with h;exact h.symm
   clear he hbf hbt;have k1:=HG.o.bq.cell (j:=1) rfl
   refine opwp_K (fun K2 hK2=> ?_)
   go_simp
   exact hK2 _ _ ⟨(.slice q.lh.ao q.lits.length q.lh.cap),(by first|rfl| (simp [z3];done)),World.grownBy.refl _ _,gIf_ne (G:=WG W g5 q b L a B) (by decide) HG.o,⟨fun h=>absurd h (by decide),fun _=>rfl⟩⟩
  ·injection ho with ho
   subst ho;have z4:s 33 = .slice q.lh.ao q.lits.length q.lh.cap:=by have h:=(he ⟨4,.data⟩ (by simp) rfl).2 (by decide);injection h with h;exact h.symm
   clear he hbf hbt;refine opwp_K (fun K2 hK2=> ?_)
   go_simp
   exact hK2 _ _ ⟨(.int .i64 (q.lits.length:Nat)),(by first|rfl| (simp [z4];done)),World.grownBy.refl _ _,gIf_ne (G:=WG W g5 q b L a B) (by decide) HG.o,⟨fun h=>absurd h (by decide),fun _=>rfl⟩⟩
  ·injection ho with ho
   subst ho;have z2:s 31 = .pointer (some ⟨b,0,none⟩):=by have h:=(he ⟨2,.data⟩ (by simp) rfl).2 (by decide);injection h with h;exact h.symm
   have z5:s 34 = .int .i64 (q.lits.length:Nat):=by have h:=(he ⟨5,.data⟩ (by simp) rfl).2 (by decide);injection h with h;exact h.symm
   obtain rfl:bb=false:=hbf rfl;clear he hbf hbt;have htp:=HG.o.tp;rw [if_neg (by decide)]at htp
   have HTP:=ai htp;clear htp;refine opwp_K (fun K2 hK2=> ?_)
   go_simp
   go_at_call 10
   refine(n_any x b a L q.lits.length HTP.o (by have:=HA.o;omega) (by have:=HLN.o;constructor<;>omega)).mono ?_
   rintro e y ⟨rfl,h1,h2⟩;rw [HM.o]
   go_simp
   exact hK2 _ _ ⟨(.int .i64 (j:Nat)),(by first|rfl| (simp [z2,z5];done)),h2,gIf_eq (G:=WG W g5 q b L a B) (⟨HG.o.gb.trans h2,HG.o.bq.grown h2 (by intro e;injection e with e;exact HG.o.ne e),by rw [if_pos rfl];exact h1,HG.o.qi.grown h2 HG.o.lt,HG.o.lt,HG.o.ne⟩),⟨fun h=>absurd h (by decide),fun _=>rfl⟩⟩
  ·injection ho with ho
   subst ho;have z1:s 30 = .slice q.lh.ao q.lits.length q.lh.cap:=by have h:=(he ⟨1,.data⟩ (by simp) rfl).2 (by decide);injection h with h;exact h.symm
   have z6:s 35 = .int .i64 (j:Nat):=by have h:=(he ⟨6,.data⟩ (by simp) rfl).2 (by decide);injection h with h;exact h.symm
   obtain rfl:bb=true:=hbt ⟨⟨6,.data⟩,by simp,rfl,rfl⟩
   clear he hbf hbt;have hix:=HG.o.qi.row.ix HJ.o Tryz.underlying29 szlit;refine opwp_K (fun K2 hK2=> ?_)
   go_simp
   exact hK2 _ _ ⟨(.pointer (some ⟨q.lh.b,q.lh.o+j*2,none⟩)),(by first|rfl| (simp [z1,z6];done)),World.grownBy.refl _ _,gIf_ne (G:=WG W g5 q b L a B) (by decide) HG.o,⟨fun h=>absurd h (by decide),fun _=>rfl⟩⟩
  ·injection ho with ho
   subst ho;have z7:s 36 = .pointer (some ⟨q.lh.b,q.lh.o+j*2,none⟩):=by have h:=(he ⟨7,.data⟩ (by simp) rfl).2 (by decide);injection h with h;exact h.symm
   clear he hbf hbt;obtain⟨c0,c1⟩:=li_at HG.o.qi.row HJ.o;rw [HL.o]at c0 c1;refine opwp_K (fun K2 hK2=> ?_)
   go_simp
   exact hK2 _ _ ⟨(.agg #[.int .i64 (l.tab:Nat),.slice l.sl.h.ao l.sl.l.length l.sl.h.cap]),(by first|rfl| (simp [z7];done)),World.grownBy.refl _ _,gIf_ne (G:=WG W g5 q b L a B) (by decide) HG.o,⟨fun h=>absurd h (by decide),fun _=>rfl⟩⟩
  ·injection ho with ho
   subst ho;clear he hbf hbt;have HBL:=ai HG.o.tp.lt;refine opwp_K (fun K2 hK2=> ?_)
   go_simp
   exact hK2 _ _ ⟨_,(by first|rfl| (simp [List.getD];done)),only_below (belA _) _,gIf_ne (G:=WG W g5 q b L a B) (by decide) (HG.o.below (belA _)),⟨fun _=>⟨_,rfl,Box.new _ _ _,HG.o.gb.size,by have:=HBL.o;omega⟩,fun h=>absurd rfl h⟩⟩
end Go.Proofs.YtiijaaohphokcaaGreatDoor
/- querylabfield.Weaker: what stands while it runs; its result plainly. -/
namespace Go.Proofs.YtiijaaohphokcaaGreatDoor
open Go.RowKit
structure WS (w:World) (s:Sch) (q:Cq) (b:Nat) (L:IL) (a ob vo:Nat) (lo:List Li) (lv:Value) (z:World) :Prop where
 gb:w.grownBy z (some b)
 ll:b<w.heap.size∧(0<L.l.length→L.h.b<w.heap.size)
 tp:TapeIn z b L a
 bs:Box z w.heap.size #[.slice s.th.ao s.tabs.length s.th.cap] 27
 bq:Box z (w.heap.size+1) (qcells q) 32
 br:Box z (w.heap.size+1+1) #[.int .i64 0,.slice none 0 0,.slice none 0 0] 32
 bo:Box z ob #[.int .i64 (vo:Nat),lv,.slice q.head.h.ao q.head.l.length q.head.h.cap] 32
 lob:w.heap.size+1+1<ob
 ol:z.ownsRow w.heap.size 56 2 lv lo.length (lo.flatMap Li.cells)
section
variable {w z y:World} {s:Sch} {q:Cq} {b a a' ob vo:Nat} {L:IL} {lo:List Li} {lv:Value}
theorem WS.below (h:WS w s q b L a ob vo lo lv z) (hb:Below z.heap.size z y) :WS w s q b L a ob vo lo lv y:=⟨gb_bel h.gb hb,h.ll,h.tp.mono hb,h.bs.below hb,h.bq.below hb,h.br.below hb,h.bo.below hb,h.lob,h.ol.kept (only_below hb none) (Classical.em _)⟩
theorem WS.tape (h:WS w s q b L a ob vo lo lv z) (hg:z.grownBy y (some b)) (ht:TapeIn y b L a') :WS w s q b L a' ob vo lo lv y:=by
 have hl:=h.ll.1;have hlo:=h.lob;exact⟨h.gb.trans hg,h.ll,ht,h.bs.grown hg (by intro e;injection e with e;omega),h.bq.grown hg (by intro e;injection e with e;omega),h.br.grown hg (by intro e;injection e with e;omega),h.bo.grown hg (by intro e;injection e with e;omega),h.lob,h.ol.kept hg (.inr (fun e=>by have:=(h.ol.lt b e).1;omega))⟩
theorem WS.far {c:Nat} (h:WS w s q b L a ob vo lo lv z) (hg:z.grownBy y (some c)) (hc:w.heap.size+1+1<c) (ho:ob≠c) (hl:lv.ownBlock≠some c) :WS w s q b L a ob vo lo lv y:=by
 have hll:=h.ll;exact⟨h.gb.andThen hg (fun j e=>by injection e with e;left;omega),h.ll,tz2 h.tp hg hll (by omega),h.bs.grown hg (by intro e;injection e with e;omega),h.bq.grown hg (by intro e;injection e with e;omega),h.br.grown hg (by intro e;injection e with e;omega),h.bo.grown hg (by intro e;injection e with e;exact ho e),h.lob,h.ol.kept hg (.inr hl)⟩
theorem WS.vars (h:WS w s q b L a ob vo lo lv z) (n:Nat) :WS w s q b L a ob n lo lv (z.setCell ⟨ob,0,none⟩ (.int .i64 (n:Nat))):=by
 have hll:=h.ll;have hlo:=h.lob;have hg:=gb_set z ob 0 (.int .i64 (n:Nat));refine⟨h.gb.andThen hg (fun j e=>by injection e with e;left;omega),h.ll,tz2 h.tp hg hll (by omega),h.bs.grown hg (by intro e;injection e with e;omega),h.bq.grown hg (by intro e;injection e with e;omega),h.br.grown hg (by intro e;injection e with e;omega),?_,h.lob,h.ol.kept hg (.inr (fun e=>(TyAt.own h.ol e).ne (TyAt.box h.bo) (by decide) rfl))⟩
 have:=h.bo.set 0 (.int .i64 (n:Nat))
 simpa only [List.setIfInBounds_toArray,List.set_cons_zero,List.set_cons_succ]using this
theorem WS.app {l:Li} {v2:Value} (h:WS w s q b L a ob vo lo lv z) (hg:z.grownBy y lv.ownBlock) (hown:y.ownsRow w.heap.size 56 2 v2 (lo.length+1) (lo.flatMap Li.cells ++ Li.cells l)) :WS w s q b L a ob vo (lo ++ [l]) v2 (y.setCell ⟨ob,1,none⟩ v2)∧Box y ob #[.int .i64 (vo:Nat),lv,.slice q.head.h.ao q.head.l.length q.head.h.cap] 32:=by
 have hll:=h.ll;have hlo:=h.lob;have key: ∀ {g T cs},Box z g cs T→56≠T→Box y g cs T:=fun hb hne=>hb.grown hg (fun e=>(TyAt.own h.ol e.symm).ne (TyAt.box hb) hne rfl)
 have htp:TapeIn y b L a:=by
  cases hv:lv.ownBlock with
  | none=>rw [hv]at hg;exact h.tp.mono ⟨hg.os,hg.tape,hg.output,hg.size,fun i hi=>hg.block i hi (by simp)⟩
  | some j=>rw [hv]at hg;exact tz2 h.tp hg hll (h.ol.lt j hv).1
 have hbo:=key h.bo (by decide)
 have hs:=gb_set y ob 1 v2;refine⟨⟨(h.gb.andThen hg (fun j e=>.inl (h.ol.lt j e).1)).andThen hs (fun j e=>by injection e with e;left;omega),h.ll,tz2 htp hs hll (by omega),(key h.bs (by decide)).grown hs (by intro e;injection e with e;omega),(key h.bq (by decide)).grown hs (by intro e;injection e with e;omega),(key h.br (by decide)).grown hs (by intro e;injection e with e;omega),?_,h.lob,?_⟩,hbo⟩
 ·have:=hbo.set 1 v2
  simpa only [List.setIfInBounds_toArray,List.set_cons_zero,List.set_cons_succ]using this
 ·have e: (lo ++ [l]).flatMap Li.cells=lo.flatMap Li.cells ++ Li.cells l:=by rw [List.flatMap_append,List.flatMap_cons,List.flatMap_nil,List.append_nil]
  rw [e,List.length_append];exact hown.kept hs (.inr (fun e=>(TyAt.own hown e).ne (TyAt.box hbo) (by decide) rfl))
end
theorem cs_same {y:World} {b o:Nat} {u v:Value} (h:y.cell? ⟨b,o,none⟩ =some u) : (y.setCell ⟨b,o,none⟩ v).cell? ⟨b,o,none⟩ =some v:=World.cell?_setCell_same _ _ _ h
theorem cs_ne {y:World} {b o o':Nat} {u v:Value} (h:o'≠o) (hc:y.cell? ⟨b,o',none⟩ =some u) : (y.setCell ⟨b,o,none⟩ v).cell? ⟨b,o',none⟩ =some u:=(cell_set_ne h).trans hc
theorem four_at {x:World} {b o:Nat} {u0 u1 u2 u3 v0 v1 v2 v3:Value} (c0:x.cell? ⟨b,o,none⟩ =some u0) (c1:x.cell? ⟨b,o+1,none⟩ =some u1) (c2:x.cell? ⟨b,o+2,none⟩ =some u2) (c3:x.cell? ⟨b,o+3,none⟩ =some u3) :
  ((((x.setCell ⟨b,o,none⟩ v0).setCell ⟨b,o+1,none⟩ v1).setCell ⟨b,o+2,none⟩ v2).setCell ⟨b,o+3,none⟩ v3).cell? ⟨b,o,none⟩ =some v0∧
  ((((x.setCell ⟨b,o,none⟩ v0).setCell ⟨b,o+1,none⟩ v1).setCell ⟨b,o+2,none⟩ v2).setCell ⟨b,o+3,none⟩ v3).cell? ⟨b,o+1,none⟩ =some v1∧
  ((((x.setCell ⟨b,o,none⟩ v0).setCell ⟨b,o+1,none⟩ v1).setCell ⟨b,o+2,none⟩ v2).setCell ⟨b,o+3,none⟩ v3).cell? ⟨b,o+2,none⟩ =some v2∧
  ((((x.setCell ⟨b,o,none⟩ v0).setCell ⟨b,o+1,none⟩ v1).setCell ⟨b,o+2,none⟩ v2).setCell ⟨b,o+3,none⟩ v3).cell? ⟨b,o+3,none⟩ =some v3:=by
 have a0:=cs_same (v:=v0) c0
 have a1:=cs_ne (o:=o) (v:=v0) (by omega) c1
 have a2:=cs_ne (o:=o) (v:=v0) (by omega) c2
 have a3:=cs_ne (o:=o) (v:=v0) (by omega) c3
 generalize x.setCell ⟨b,o,none⟩ v0=y at *;have b0:=cs_ne (o:=o+1) (v:=v1) (by omega) a0
 have b1:=cs_same (v:=v1) a1
 have b2:=cs_ne (o:=o+1) (v:=v1) (by omega) a2
 have b3:=cs_ne (o:=o+1) (v:=v1) (by omega) a3
 generalize y.setCell ⟨b,o+1,none⟩ v1=z at *;have d0:=cs_ne (o:=o+2) (v:=v2) (by omega) b0
 have d1:=cs_ne (o:=o+2) (v:=v2) (by omega) b1
 have d2:=cs_same (v:=v2) b2
 have d3:=cs_ne (o:=o+2) (v:=v2) (by omega) b3
 generalize z.setCell ⟨b,o+2,none⟩ v2=t at *;exact⟨cs_ne (by omega) d0,cs_ne (by omega) d1,cs_ne (by omega) d2,cs_same d3⟩
theorem four_ne {x:World} {b o o':Nat} {u v0 v1 v2 v3:Value} (hc:x.cell? ⟨b,o',none⟩ =some u) (h0:o'<o∨o+4≤o') :
  ((((x.setCell ⟨b,o,none⟩ v0).setCell ⟨b,o+1,none⟩ v1).setCell ⟨b,o+2,none⟩ v2).setCell ⟨b,o+3,none⟩ v3).cell? ⟨b,o',none⟩ =some u:=by
 have a0:=cs_ne (o:=o) (v:=v0) (by omega) hc
 generalize x.setCell ⟨b,o,none⟩ v0=y at *;have b0:=cs_ne (o:=o+1) (v:=v1) (by omega) a0
 generalize y.setCell ⟨b,o+1,none⟩ v1=z at *;have d0:=cs_ne (o:=o+2) (v:=v2) (by omega) b0
 generalize z.setCell ⟨b,o+2,none⟩ v2=t at *;exact cs_ne (by omega) d0
theorem row_set4 {x:World} {h:Hd} {xs:List (Tm V)} (hr:Row x 4 Tm.cells h xs) {k:Nat} (hk:k<xs.length) (t:Tm V) :
  Row ((((x.setCell ⟨h.b,h.o+k*4,none⟩ (.int .i64 t.nr)).setCell ⟨h.b,h.o+k*4+1,none⟩ (.int .i64 t.val.kind)).setCell ⟨h.b,h.o+k*4+2,none⟩ (.int .i64 t.val.num)).setCell ⟨h.b,h.o+k*4+3,none⟩ (.string t.val.text)) 4 Tm.cells h (xs.set k t):=by
 obtain⟨c0,c1,c2,c3⟩:=tm_at hr hk;have hF:=four_at (v0:=.int .i64 t.nr) (v1:=.int .i64 t.val.kind) (v2:=.int .i64 t.val.num) (v3:=.string t.val.text) c0 c1 c2 c3
 have hN: ∀o' u,x.cell? ⟨h.b,o',none⟩ =some u→(o'<h.o+k*4∨h.o+k*4+4≤o')→_:=fun o' u hc hne=>four_ne (v0:=.int .i64 t.nr) (v1:=.int .i64 t.val.kind) (v2:=.int .i64 t.val.num) (v3:=.string t.val.text) hc hne
 have hsz: ((((x.setCell ⟨h.b,h.o+k*4,none⟩ (.int .i64 t.nr)).setCell ⟨h.b,h.o+k*4+1,none⟩ (.int .i64 t.val.kind)).setCell ⟨h.b,h.o+k*4+2,none⟩ (.int .i64 t.val.num)).setCell ⟨h.b,h.o+k*4+3,none⟩ (.string t.val.text)).heap.size=x.heap.size:=by simp
 generalize (((x.setCell ⟨h.b,h.o+k*4,none⟩ (.int .i64 t.nr)).setCell ⟨h.b,h.o+k*4+1,none⟩ (.int .i64 t.val.kind)).setCell ⟨h.b,h.o+k*4+2,none⟩ (.int .i64 t.val.num)).setCell ⟨h.b,h.o+k*4+3,none⟩ (.string t.val.text) =y at *;obtain⟨f0,f1,f2,f3⟩:=hF;refine⟨by rw [List.length_set];exact hr.1,hr.2.1,fun hp=>⟨(hr.2.2.1 (by rw [List.length_set]at hp;exact hp)).1,by rw [hsz];exact(hr.2.2.1 (by rw [List.length_set]at hp;exact hp)).2⟩,fun i hi j v hv=> ?_⟩
 have hi2:i<xs.length:=by rwa [List.length_set]at hi
 have hj:j<4:=by
  have:=(List.getElem?_eq_some_iff.1 hv).1
  rwa [Tm.cells_len]at this
 by_cases e:i=k
 ·subst e
  rw [List.getElem_set_self,Tm.cells_eq]at hv;have hj4:j=0∨j=1∨j=2∨j=3:=by omega
  rcases hj4 with e|e|e|e
  ·subst e
   have hv:some (Value.int .i64 t.nr) =some v:=hv;rw [←hv];exact f0
  ·subst e
   have hv:some (Value.int .i64 t.val.kind) =some v:=hv;rw [←hv];exact f1
  ·subst e
   have hv:some (Value.int .i64 t.val.num) =some v:=hv;rw [←hv];exact f2
  ·subst e
   have hv:some (Value.string t.val.text) =some v:=hv;rw [←hv];exact f3
 ·rw [List.getElem_set_ne (fun h=>e h.symm)]at hv
  have:=hr.2.2.2 i hi2 j v hv;exact hN _ _ this (by omega)
theorem Right.again {T:List (List Int)} {vars:Nat} {q:Cj V} {τ:Nat→Int} (h:Right T vars q τ) {l:Lt V} (hl:l∈q.lits) (h5:q.lits.length≤4) :Right T vars ⟨q.lits ++ [l],q.head⟩ τ:=by
 refine⟨by rw [List.length_append];have:=h.n1;omega,by rw [List.length_append];simp only [List.length_cons,List.length_nil];omega,h.v16,h.h1,h.h24,fun l2 hl2=> ?_,fun n hn=> ?_,h.hd⟩
 ·rcases List.mem_append.1 hl2 with hl2|hl2
  ·exact h.lit l2 hl2
  ·rw [List.mem_singleton.1 hl2];exact h.lit l hl
 ·obtain⟨l2,k1,k2⟩:=h.occ n hn
  exact⟨l2,List.mem_append_left _ k1,k2⟩
theorem Right.weak {T:List (List Int)} {vars:Nat} {q:Cj V} {τ:Nat→Int} (h:Right T vars q τ) {l:Lt V} (hl:l∈q.lits) (h5:q.lits.length≤4) (hv:vars<16) {k:Nat} (hk:k<l.2.length) : ∃τ',Right T (vars+1) ⟨q.lits ++ [(l.1,l.2.set k (.v vars))],q.head⟩ τ':=by
 obtain⟨ty,t1,t2,t3⟩:=h.lit l hl;have hkt:k<ty.length:=by omega
 refine⟨fun n=>if n=vars then ty[k] else τ n,by rw [List.length_append];have:=h.n1;omega,by rw [List.length_append];simp only [List.length_cons,List.length_nil];omega,by omega,h.h1,h.h24,fun l2 hl2=> ?_,fun n hn=> ?_,fun t ht=> ?_⟩
 ·have key: ∀ {t:Tm V} {c:Int},SlotOk vars τ t c→SlotOk (vars+1) (fun n=>if n=vars then ty[k] else τ n) t c:=fun {t c} hs=>by
   cases t with
   | c kk=>exact hs
   | v n=>exact⟨Nat.lt_succ_of_lt hs.1,(if_neg (Nat.ne_of_lt hs.1)).trans hs.2⟩
  rcases List.mem_append.1 hl2 with hl2|hl2
  ·obtain⟨ty2,k1,k2,k3⟩:=h.lit l2 hl2
   exact⟨ty2,k1,k2,fun i t c h1 h2=>key (k3 i t c h1 h2)⟩
  ·rw [List.mem_singleton.1 hl2]
   refine⟨ty,t1,by show(l.2.set k _).length=_;rw [List.length_set];exact t2,fun i t c h1 h2=> ?_⟩
   have h1: (l.2.set k (Tm.v vars))[i]? = some t:=h1;by_cases e:k=i
   ·subst e
    rw [List.getElem?_set_self hk]at h1;injection h1 with h1;subst h1;rw [List.getElem?_eq_getElem hkt]at h2;injection h2 with h2;exact⟨Nat.lt_succ_self _,(if_pos rfl).trans h2⟩
   ·rw [List.getElem?_set_ne e]at h1
    exact key (t3 i t c h1 h2)
 ·by_cases e:n=vars
  ·subst e
   exact⟨_,List.mem_append_right _ (List.mem_singleton.2 rfl),by
    show Tm.v n∈l.2.set k (Tm.v n)
    exact List.mem_of_getElem? (i:=k) (List.getElem?_set_self hk)⟩
  ·obtain⟨l2,k1,k2⟩:=h.occ n (by omega)
   exact⟨l2,List.mem_append_left _ k1,k2⟩
 ·have:=h.hd t ht
  cases t with
  | c kk=>exact this
  | v n=>exact Nat.lt_succ_of_lt this
end Go.Proofs.YtiijaaohphokcaaGreatDoor

/- A part of the proof of AlgebraMade. -/
import Derived.Test.YtogalchclmmfgaaDoorP44
import Derived.Test.YtogalchclmmfgaaDoorP46
import Derived.Test.YtogalchclmmfgaaDoorP41
import Derived.Deep.DeepCutAuto
import Derived.Deep.RegionHeld3
set_option maxRecDepth 100000
set_option maxHeartbeats 16000000
namespace Go.Proofs.YtogalchclmmfgaaDoor
open Go.RowKit
theorem query_step (HE2:Hid (ExprAt 20 5 2)) (HE3:Hid (ExprAt 110 21 3)) {n N:Nat} {d:Int} (hd:2≤d∧d≤4) (hn:n≤100000) (HQY:Hid (QryAt n N (d - 1))) (w:World) (b a:Nat) (L:IL) (s:Sch) (E:Nat) (hsk:SKd b s E w) (hE:E≤w.heap.size) (ht:TapeIn w b L a) (ha:a+ (2*n+250)≤4611686018427370000) (h5:L.next a 5≠0) :
  Calls Tryd.prog 13 #[.pointer (some ⟨b,0,none⟩),.agg #[.slice s.th.ao s.tabs.length s.th.cap],.int .i64 d] w fun e w'=>QOut s w w' b a (2*n+250) (2*N+60) L e:=by
 have HBW:=ai (belAA (w:=w) (.cells #[.slice s.th.ao s.tabs.length s.th.cap] 28) (.cells #[.int .i64 0,.string ⟨#[]⟩,.int .i64 0,.bool false,.int .i64 0,.int .i64 0,.int .i64 0,.string ⟨#[]⟩,.int .i64 0,.slice none 0 0,.slice none 0 0,.slice none 0 0,.slice none 0 0,.slice none 0 0,.slice none 0 0] 57))
 have B4:=ai ((Box.new w #[.slice s.th.ao s.tabs.length s.th.cap] 28).below (belA (.cells #[.int .i64 0,.string ⟨#[]⟩,.int .i64 0,.bool false,.int .i64 0,.int .i64 0,.int .i64 0,.string ⟨#[]⟩,.int .i64 0,.slice none 0 0,.slice none 0 0,.slice none 0 0,.slice none 0 0,.slice none 0 0,.slice none 0 0] 57)));have BR:=ai (Box.new (w.alloc (.cells #[.slice s.th.ao s.tabs.length s.th.cap] 28)) #[.int .i64 0,.string ⟨#[]⟩,.int .i64 0,.bool false,.int .i64 0,.int .i64 0,.int .i64 0,.string ⟨#[]⟩,.int .i64 0,.slice none 0 0,.slice none 0 0,.slice none 0 0,.slice none 0 0,.slice none 0 0,.slice none 0 0] 57);simp only [World.size_alloc]at BR;have HSK:=ai (hsk.below HBW.o);have HT:=ai (ht.mono HBW.o);have HLW:=ai ht.low;have hbl:=ht.lt;have hd1: ¬d≤1:=by omega
 have hwd:IntKind.i64.wrap (d - 1) =d - 1:=by rw [IntKind.wrap_i64];omega
 have hb5: (L.next a 5 == 0) =false:=beq_eq_false_iff_ne.2 h5;clear hsk ht h5
 go_enter Tryd.func13,Tryd.ntmps13;go_upto_region 1 with(fail)
 have HSW:=ai (show((w.alloc (.cells #[.slice s.th.ao s.tabs.length s.th.cap] 28)).alloc (.cells #[.int .i64 0,.string ⟨#[]⟩,.int .i64 0,.bool false,.int .i64 0,.int .i64 0,.int .i64 0,.string ⟨#[]⟩,.int .i64 0,.slice none 0 0,.slice none 0 0,.slice none 0 0,.slice none 0 0,.slice none 0 0,.slice none 0 0] 57)).heap.size=w.heap.size+2 from by simp)
 generalize (w.alloc (.cells #[.slice s.th.ao s.tabs.length s.th.cap] 28)).alloc (.cells #[.int .i64 0,.string ⟨#[]⟩,.int .i64 0,.bool false,.int .i64 0,.int .i64 0,.int .i64 0,.string ⟨#[]⟩,.int .i64 0,.slice none 0 0,.slice none 0 0,.slice none 0 0,.slice none 0 0,.slice none 0 0,.slice none 0 0] 57) =W at *;go_upto_region 12 with(go_at_call 10;refine(next_any _ b a L 5 HT.o (by omega) (by decide) ⟨by decide,by decide⟩).mono ?_;rintro e w1 ⟨rfl,ht2,hg2⟩;have HT1:=ai ht2;have HG1:=ai hg2;have y4:=(B4.o.grown hg2 (by simp;omega)).cell (j:=0) rfl;clear ht2 hg2)
 go_upto_region 14 with(go_at_call 13;refine(HQY.o _ b (a+1) L s E (HSK.o.tape HG1.o) (by have:=HG1.o.size;have:=HSW.o;omega) HT1.o (by omega)).mono ?_;rintro e x1 ⟨⟨qa,oa,rfl,hqo⟩,⟨p,hp1,hp2,htp⟩,hgr⟩;have HQO:=ai hqo;have HTP:=ai htp;have HGX:=ai (HG1.o.trans hgr);clear hqo htp hgr)
 clear y4;have hsx:w.heap.size+2≤x1.heap.size:=by have:=HGX.o.size;have:=HSW.o;omega
 have hsW1:w.heap.size+2≤w1.heap.size:=by have:=HG1.o.size;have:=HSW.o;omega
 have HBZ:=ai (belAA (w:=x1) (.cells qa.lit 57) (.cells qa.lit 57))
 have HP:=ai (show QP w ((x1.alloc (.cells qa.lit 57)).alloc (.cells qa.lit 57)) b p L s E qa oa x1.heap.size N from
  ⟨((only_below HBW.o _).trans HGX.o).trans (only_below HBZ.o _),HLW.o,HTP.o.mono HBZ.o,(HSK.o.tape HGX.o).below HBZ.o,hE,(HQO.o.wide (by omega) (Nat.le_refl _) (Nat.le_refl _) (Nat.le_refl _)).below HBZ.o,(B4.o.grown HGX.o (by simp;omega)).below HBZ.o,(BR.o.grown HGX.o (by simp;omega)).below HBZ.o,
   (Box.new x1 qa.lit 57).below (belA _),(by have:=Box.new (x1.alloc (.cells qa.lit 57)) qa.lit 57;simp only [World.size_alloc]at this;exact this),hsx⟩)
 clear HBW B4 BR HSK HT HT1 HG1 HQO HTP HGX HBZ;generalize (x1.alloc (.cells qa.lit 57)).alloc (.cells qa.lit 57) =Z at *;generalize x1.heap.size=g at *;have hob:=HP.o.ob;have hol:=HP.o.qo.ole;have hpa:a≤p∧p≤a+1+n:=by omega
 obtain⟨v7,hv7,hv73⟩:=nat_next L p (n:=7) (by decide)
 have HN7:=ai hv7;clear hv7;go_upto_region 15 with(go_at_call 10;refine(next_any _ b p L 7 HP.o.tp (by omega) (by decide) ⟨by decide,by decide⟩).mono ?_;rintro e x2 ⟨rfl,ht2,hg2⟩;rw [HN7.o];have HP2:=ai (HP.o.tape hg2 ht2);have hs2:=hg2.size;clear ht2 hg2)
 have hg2:=HP2.o.hg;have hl2:=HP2.o.lt;clear HP HSW;by_cases c0:v7=0
 ·subst c0
  go_upto_if 80 with fail
  with_reducible refine wp_cond_true rfl ?_
  with_reducible refine qcase_sel HE2 HE3 hd hn HQY w x2 b a p g L s E qa oa ha hpa HP2 ?hc ?hQ
  case hc=>rfl
  case hQ=>exact fun _ _ h=>h
 have b0: ((v7:Int) == 0) =false:=beq_eq_false_iff_ne.2 (by omega)
 by_cases c1:v7=1
 ·subst c1
  go_upto_if 88 with fail
  with_reducible refine wp_cond_true rfl ?_
  with_reducible refine Code.wp_mono ?hm (qcase_proj HE2 HE3 hd hn HQY w x2 b a p g L s E qa oa ha hpa HP2 ?hc)
  case hc=>rfl
  case hm=>exact(fun e a x h=>by cases e<;>first|exact h|exact(h:False).elim)
 have b1: ((v7:Int) == 1) =false:=beq_eq_false_iff_ne.2 (by omega)
 by_cases c2:v7=2
 ·subst c2
  go_upto_if 114 with fail
  with_reducible refine wp_cond_true rfl ?_
  with_reducible refine qcase_dist HE2 HE3 hd hn HQY w x2 b a p g L s E qa oa ha hpa HP2 ?hc ?hQ
  case hc=>rfl
  case hQ=>exact fun _ _ h=>h
 have b2: ((v7:Int) == 2) =false:=beq_eq_false_iff_ne.2 (by omega)
 by_cases c3:v7=3
 ·subst c3
  go_upto_if 119 with fail
  with_reducible refine wp_cond_true rfl ?_
  with_reducible refine qcase_group HE2 HE3 hd hn HQY w x2 b a p g L s E qa oa ha hpa HP2 ?hc ?hQ
  case hc=>rfl
  case hQ=>exact fun _ _ h=>h
 have b3: ((v7:Int) == 3) =false:=beq_eq_false_iff_ne.2 (by omega)
 by_cases c4:v7=4
 ·subst c4
  go_upto_if 127 with fail
  with_reducible refine wp_cond_true rfl ?_
  with_reducible refine qcase_sets HE2 HE3 hd hn HQY w x2 b a p g L s E qa oa ha hpa HP2 ?hc ?hQ
  case hc=>rfl
  case hQ=>exact fun _ _ h=>h
 have b4: ((v7:Int) == 4) =false:=beq_eq_false_iff_ne.2 (by omega)
 go_upto_region 32 with fail
 with_reducible refine qcase_join HE2 HE3 hd hn HQY w x2 b a p g L s E qa oa ha hpa HP2 ?hc ?hN
 case hc=>rfl
 case hN=>exact fun a' x h=>(by assumption: ∀(a:Act) (w:World),Code.wp _ _ _ a w→_) a' x (Code.wp_mono (fun e a x h=>by cases e<;>first|exact h|exact(h:False).elim) h)
end Go.Proofs.YtogalchclmmfgaaDoor
namespace Go.Proofs.YtogalchclmmfgaaDoor
open Go.RowKit
structure VS (w z0 z:World) (b bp:Nat) (L:IL) (p:Nat) (o:IL) (be:Value) (rh:Hd) (rs pend:List VL) :Prop where
 gb:w.grownBy z (some b)
 lw:w.heap.size≤bp∧bp<z0.heap.size
 ll:b<w.heap.size∧(0<L.l.length→L.h.b<w.heap.size)
 tp:TapeIn z b L p
 kp:Kept b bp z0 z
 bx:Box z bp #[.int .i64 2,.string ⟨#[]⟩,.int .i64 0,.bool false,.int .i64 0,.int .i64 0,.int .i64 0,.string ⟨#[]⟩,.int .i64 0,.slice none 0 0,.slice none 0 0,.slice none 0 0,.slice o.h.ao o.l.length o.h.cap,be,.slice none 0 0] 57
 ov:z.ownsRow z0.heap.size 79 1 (.slice rh.ao rs.length rh.cap) rs.length (rs.flatMap VL.cells)
 ie:Els (fun r x=>r.In x) z0.heap.size (fun k=>rh.ob=some k) z rs
 ip:Els (fun r x=>r.In x) z0.heap.size (fun k=>rh.ob=some k) z pend
section
variable {w z0 z z':World} {b bp p p' g cap:Nat} {L o:IL} {be:Value} {rh:Hd} {rs pend:List VL}
theorem VS.tape (h:VS w z0 z b bp L p o be rh rs pend) (hg:z.grownBy z' (some b)) (ht:TapeIn z' b L p') :VS w z0 z' b bp L p' o be rh rs pend:=by
 have hl:=h.lw;have hll:=h.ll;have hr: ∀g,some b=some g→g<z0.heap.size∨z.heap.size≤g∨rh.ob=some g:=fun g e=>.inl (by injection e with e;omega)
 exact⟨h.gb.trans hg,hl,hll,ht,h.kp.grown hg,h.bx.grown hg (by simp;omega),own_keep h.ov hg fun g e e'=>by have:=(own_ob h.ov e').1;injection e with e;omega,h.ie.step hg hr (fun k hk=>.inl hk),h.ip.step hg hr (fun k hk=>.inl hk)⟩
theorem VS.below (h:VS w z0 z b bp L p o be rh rs pend) (hb:Below z.heap.size z z') :VS w z0 z' b bp L p o be rh rs pend:=h.tape (only_below hb _) (h.tp.mono hb)
theorem VS.push (h:VS w z0 z b bp L p o be rh rs []) (hg:z.grownBy z' (some b)) (ht:TapeIn z' b L p') {r:VL} (hi:r.In z') (hf:0<r.l.length→z.heap.size≤r.h.b) :VS w z0 z' b bp L p' o be rh rs [r]:=by
 have h1:=h.tape hg ht;refine { h1 with ip:=?_ }
 exact Els.nil.snoc (xs:= []) (vl_dep hi hf) (fun k hk=>⟨Nat.le_trans h.kp.2 hk.1,fun hx=>by have:=(own_ob h.ov hx).2.1;have:=hk.1;omega⟩)
theorem VS.app {r:VL} (h:VS w z0 z b bp L p o be rh rs [r])
  (ho:z'.ownsRow z0.heap.size 79 1 (.slice (some ⟨g,0,none⟩) (rs.length+1) cap) (rs.length+1) (rs.flatMap VL.cells ++ VL.cells r)) (hg:z.grownBy z' (Value.slice rh.ao rs.length rh.cap).ownBlock) (hat: (Value.slice rh.ao rs.length rh.cap).ownBlock=some g∨g=z.heap.size) :
  VS w z0 z' b bp L p o be ⟨some ⟨g,0,none⟩,cap⟩ (rs ++ [r]) []:=by
 rw [Hd.ob_eq]at hg hat;have hl:=h.lw;have hll:=h.ll;have hge: ∀g,rh.ob=some g→z0.heap.size≤g:=fun g e=>(own_ob h.ov e).1
 have hX: ∀k,(⟨some ⟨g,0,none⟩,cap⟩ :Hd).ob=some k→rh.ob=some k∨z.heap.size≤k:=fun k e=>by
  have e:g=k:=by simpa [Hd.ob]using e
  subst e;rcases hat with e|e
  ·exact .inl e
  ·exact .inr (by omega)
 have hr: ∀g,rh.ob=some g→g<z0.heap.size∨z.heap.size≤g∨rh.ob=some g:=fun g e=>.inr (.inr e)
 refine⟨gbo h.gb hg (fun g e=>by have:=hge g e;omega),hl,hll,tzo h.tp hg hll (fun g e=>by have:=hge g e;omega),⟨fun k hk h1 h2=> ?_,Nat.le_trans h.kp.2 hg.size⟩,h.bx.grown hg (fun e=>by have:=hge bp e.symm;omega),?_,?_,Els.nil⟩
 ·rw [hg.block k (Nat.lt_of_lt_of_le hk h.kp.2) (fun e=>by have:=hge k e.symm;omega)]
  exact h.kp.1 k hk h1 h2
 ·rw [fm_snoc,List.length_append]
  exact ho
 ·intro x hx
  rcases List.mem_append.1 hx with hx|hx
  ·exact h.ie.step hg hr hX x hx
  ·exact h.ip.step hg hr hX x hx
theorem VS.store (h:VS w z0 z b bp L p o be rh rs pend) {n:Nat} (hn:rs.length=n) :VS w z0 (z.setCell ⟨bp,13,none⟩ (.slice rh.ao n rh.cap)) b bp L p o (.slice rh.ao rs.length rh.cap) rh rs pend:=by
 subst hn;have hl:=h.lw;have hll:=h.ll;have hg:=gb_set z bp 13 (.slice rh.ao rs.length rh.cap);have hr: ∀g,some bp=some g→g<z0.heap.size∨z.heap.size≤g∨rh.ob=some g:=fun g e=>.inl (by injection e with e;omega)
 exact⟨gb_then h.gb hg hl.1,hl,hll,tz2 h.tp hg hll hl.1,h.kp.set 13 _,h.bx.set 13 _,own_keep h.ov hg fun g e e'=>by have:=(own_ob h.ov e').1;injection e with e;omega,h.ie.step hg hr (fun k hk=>.inl hk),h.ip.step hg hr (fun k hk=>.inl hk)⟩
end
theorem Kept.trans2 {b g:Nat} {W x y:World} (h:Kept b g W x) (k:Kept b b x y) :Kept b g W y:=⟨fun j hj h1 h2=>(k.1 j (Nat.lt_of_lt_of_le hj h.2) h1 h1).trans (h.1 j hj h1 h2),Nat.le_trans h.2 k.2⟩
abbrev valsQ (o:IL) (rh:Hd) (rs:List VL) :Qu:=⟨2,⟨#[]⟩,0,false,leafEx 0 0 0 ⟨#[]⟩ 0,nilHd,[],nilHd,[],o,rh,rs,nilHd,[]⟩
theorem vals_qo {w z0 z:World} {b bp p B:Nat} {L o:IL} {be:Value} {rh:Hd} {rs:List VL} {s:Sch} (h:VS w z0 z b bp L p o be rh rs []) (hB:B≤z0.heap.size) (how:OwnIL B z o) (hob: ∀g,o.h.ob=some g→g<z0.heap.size) (hoi:o.In z) (hol:o.l.length≤3) (hot: ∀t∈o.l,isT t=true) (hrl:rs.length≤2) (hrs: ∀r∈rs,r.l.length≤3) :QO s B z.heap.size z (valsQ o rh rs) o 10 where
 qd:=by
  have hrb: ∀g,(valsQ o rh rs).rb g→o.h.ob=some g:=by
   rintro g (e|e|e)
   ·cases e
   ·cases e
   ·exact e
  refine⟨⟨(show int64 2 by constructor<;>decide),by show(0:Nat)≤maxLen;omega,z64,hoi.2⟩,Nat.le_refl _,⟨World.ownsRow_nil _ _ _ _,World.ownsRow_nil _ _ _ _,how⟩,fun g hg=>(own_ob how (hrb g hg)).2.1,⟨fun k hk=>hk.1.2,fun u hu=> ?_⟩⟩
  refine⟨leaf_in z64 z64 z64 (by show(0:Nat)≤maxLen;omega) z64 u,(fun e h=>by cases h),(fun e h=>by cases h),?_,fun r hr=> ?_,Row.nil _ _ _,(fun e h=>by cases h)⟩
  ·have hrow:=row_of_own (cells:=VL.cells) (fun _=>rfl) (by decide) h.ov
   refine row_same hrow fun hp=>hu _ ⟨⟨?_,hrow.blk (i:=0) hp⟩,fun hb=> ?_⟩
   ·have h9:=own_from (h:=rh) h.ov hp;show B≤rh.b;omega
   ·have h1:=hob _ (hrb _ hb)
    have h9:=own_from (h:=rh) h.ov hp
    have h1':rh.b<z0.heap.size:=h1;omega
  ·exact(h.ie r hr).hold u fun k hk=>hu k ⟨⟨by have:=hk.1.1;omega,hk.1.2⟩,fun hb=>by have h1:=hob _ (hrb _ hb);have:=hk.1.1;omega⟩
 od:=il_dep hoi (fun hp=>how.ge hp)
 ofr:=fun hp=>how.ge hp
 ole:=by omega
 oty:=hot
 sz:=by
  have h1: (rs.map rsize).sum≤6:=by
   match rs,hrl,hrs with
   | [],_,_=>simp
   | [x],_,hh=>have:=hh x (by simp);simp [rsize];omega
   | [x,y],_,hh=>have:=hh x (by simp);have:=hh y (by simp);simp [rsize];omega
  rw [Qu.size_eq]
  show 1+0+0+0+ (rs.map rsize).sum+Qu.sizes []≤10
  rw [Qu.sizes];omega
 wt:=by simp [Qu.wt,Qu.wts]
 sc:=fun h0=>absurd (show(2:Int) =1 from h0) (by decide)
 mq:=mq_vals rfl
 bg:=by have h5:=leaf_size 0 0 0 ⟨#[]⟩ 0;show(leafEx 0 0 0 ⟨#[]⟩ 0).size+0+0≤100;omega
 tl:=by show o.l.length≤100;omega
abbrev scnQ (nm:ByteArray) :Qu:=⟨1,nm,0,false,leafEx 0 0 0 ⟨#[]⟩ 0,nilHd,[],nilHd,[],⟨nilHd,[]⟩,nilHd,[],nilHd,[]⟩
theorem scan_qo {z:World} {b B E i:Nat} {o:IL} {s:Sch} (hs:SKd b s E z) (hi:i<s.tabs.length) (_hB:B≤z.heap.size) (hoi:o.In z) (hof:0<o.l.length→B≤o.h.b) (hol:o.l=s.tabs[i].cols.map Col.typ) :QO s B z.heap.size z (scnQ s.tabs[i].name) o 10 where
 qd:=QD.mk0 (Nat.le_refl _) ⟨(show int64 1 by constructor<;>decide),(hs.dep.now.ts _ (List.getElem_mem hi)).nm,z64⟩ ⟨rfl,rfl⟩ ⟨rfl,rfl⟩ rfl ⟨rfl,rfl⟩ (zero_dep fun k hk=>hk.2) (Dep.any (fun k hk=>hk.2) fun x=>Row.nil _ _ _) (fun k hk=>by cases hk)
 od:=il_dep hoi hof
 ofr:=hof
 ole:=by rw [hol,List.length_map];exact(hs.nc _ (List.getElem_mem hi)).2
 oty:=fun t ht=>by
  rw [hol]at ht;obtain⟨c,hc,rfl⟩:=List.mem_map.1 ht;exact hs.ct _ (List.getElem_mem hi) c hc
 sz:=by simp [Qu.size,Qu.sizes]
 wt:=by simp [Qu.wt,Qu.wts]
 sc:=fun _=>(hs.nm i hi).1
 mq:=fun h0=>by rw [hol];exact mq_scan rfl hi rfl (hs.nm i hi) h0
 bg:=by have h5:=leaf_size 0 0 0 ⟨#[]⟩ 0;show(leafEx 0 0 0 ⟨#[]⟩ 0).size+0+0≤100;omega
 tl:=by show(0:Nat)≤100;omega
theorem info_vals: (Tryd.prog.info? 79).map (fun i=>(i.zero,i.size,i.bytes)) =some (some (.slice none 0 0),1,24):=by kernel_rfl
theorem Kept.new6 {b g:Nat} {W x:World} (h:Kept b b W x) (hg:W.heap.size≤g) (v0 v1 v2 v3 v4 v5:Value) :Kept b b W ((((((x.setCell ⟨g,0,none⟩ v0).setCell ⟨g,1,none⟩ v1).setCell ⟨g,2,none⟩ v2).setCell ⟨g,3,none⟩ v3).setCell ⟨g,4,none⟩ v4).setCell ⟨g,5,none⟩ v5):=
 ⟨fun k hk h1 h2=>((set6b x g v0 v1 v2 v3 v4 v5).block k (Nat.lt_of_lt_of_le hk h.2) (fun e=>by injection e with e;omega)).trans (h.1 k hk h1 h2),Nat.le_trans h.2 (set6b x g v0 v1 v2 v3 v4 v5).size⟩
theorem box6 {x:World} {g:Nat} {T:TypeId} {c0 c1 c2 c3 c4 c5:Value} (h:Box x g #[c0,c1,c2,c3,c4,c5] T) (v0 v1 v2 v3 v4 v5:Value) :Box ((((((x.setCell ⟨g,0,none⟩ v0).setCell ⟨g,1,none⟩ v1).setCell ⟨g,2,none⟩ v2).setCell ⟨g,3,none⟩ v3).setCell ⟨g,4,none⟩ v4).setCell ⟨g,5,none⟩ v5) g #[v0,v1,v2,v3,v4,v5] T:=(((((h.set 0 v0).set 1 v1).set 2 v2).set 3 v3).set 4 v4).set 5 v5
end Go.Proofs.YtogalchclmmfgaaDoor
namespace Go.Proofs.YtogalchclmmfgaaDoor
open Go.RowKit
theorem query_vals {d:Int} (w:World) (b a:Nat) (L:IL) (s:Sch) (E:Nat) (hsk:SKd b s E w) (_hE:E≤w.heap.size) (ht:TapeIn w b L a) (ha:a+40≤4611686018427370000) (h5:d≤1∨L.next a 5=0) (p:Nat) (hpd: (d≤1→p=a)∧(¬d≤1→p=a+1)) (h6:L.next p 6=0) :
  Calls Tryd.prog 13 #[.pointer (some ⟨b,0,none⟩),.agg #[.slice s.th.ao s.tabs.length s.th.cap],.int .i64 d] w fun e w'=>QOut s w w' b a 40 10 L e:=by
 have HBW:=ai (belAA (w:=w) (.cells #[.slice s.th.ao s.tabs.length s.th.cap] 28) (.cells #[.int .i64 0,.string ⟨#[]⟩,.int .i64 0,.bool false,.int .i64 0,.int .i64 0,.int .i64 0,.string ⟨#[]⟩,.int .i64 0,.slice none 0 0,.slice none 0 0,.slice none 0 0,.slice none 0 0,.slice none 0 0,.slice none 0 0] 57))
 have B4:=ai ((Box.new w #[.slice s.th.ao s.tabs.length s.th.cap] 28).below (belA (.cells #[.int .i64 0,.string ⟨#[]⟩,.int .i64 0,.bool false,.int .i64 0,.int .i64 0,.int .i64 0,.string ⟨#[]⟩,.int .i64 0,.slice none 0 0,.slice none 0 0,.slice none 0 0,.slice none 0 0,.slice none 0 0,.slice none 0 0] 57)));have BR:=ai (Box.new (w.alloc (.cells #[.slice s.th.ao s.tabs.length s.th.cap] 28)) #[.int .i64 0,.string ⟨#[]⟩,.int .i64 0,.bool false,.int .i64 0,.int .i64 0,.int .i64 0,.string ⟨#[]⟩,.int .i64 0,.slice none 0 0,.slice none 0 0,.slice none 0 0,.slice none 0 0,.slice none 0 0,.slice none 0 0] 57);simp only [World.size_alloc]at BR;have HSK:=ai (hsk.below HBW.o);have HT:=ai (ht.mono HBW.o);have HLW:=ai ht.low;have hbl:=ht.lt;have H5:=ai h5;have H6:=ai h6;clear hsk ht h5 h6
 go_enter Tryd.func13,Tryd.ntmps13;go_upto_region 1 with(fail)
 have HSW:=ai (show((w.alloc (.cells #[.slice s.th.ao s.tabs.length s.th.cap] 28)).alloc (.cells #[.int .i64 0,.string ⟨#[]⟩,.int .i64 0,.bool false,.int .i64 0,.int .i64 0,.int .i64 0,.string ⟨#[]⟩,.int .i64 0,.slice none 0 0,.slice none 0 0,.slice none 0 0,.slice none 0 0,.slice none 0 0,.slice none 0 0] 57)).heap.size=w.heap.size+2 from by simp)
 generalize (w.alloc (.cells #[.slice s.th.ao s.tabs.length s.th.cap] 28)).alloc (.cells #[.int .i64 0,.string ⟨#[]⟩,.int .i64 0,.bool false,.int .i64 0,.int .i64 0,.int .i64 0,.string ⟨#[]⟩,.int .i64 0,.slice none 0 0,.slice none 0 0,.slice none 0 0,.slice none 0 0,.slice none 0 0,.slice none 0 0] 57) =W at *;go_cut [30] (fun cv wx=>cv = .bool true∧(a≤p∧p≤a+1)∧Hid (TapeIn wx b L p)∧Hid (W.grownBy wx (some b)))
 case first=>
  by_cases hd:d≤1
  ·go_wp2_with fail
   go_meet
   have hpe:=hpd.1 hd;exact⟨rfl,⟨by omega,by omega⟩,(by rw [hpe];exact HT.o),World.grownBy.refl _ _⟩
  ·have hb5: (L.next a 5 == 0) =true:=by
    have:=H5.o;rw [show L.next a 5=0 by omega]
    rfl
   go_wp2_with (go_at_call 10;refine(next_any _ b a L 5 HT.o (by omega) (by decide) ⟨by decide,by decide⟩).mono ?_;rintro e w1 ⟨rfl,ht2,hg2⟩;have HT1:=ai ht2;have HG1:=ai hg2;clear ht2 hg2)
   go_meet
   have hpe:=hpd.2 hd;exact⟨rfl,⟨by omega,by omega⟩,(by rw [hpe];exact HT1.o),HG1.o⟩
 case rest=>
 obtain⟨rfl,hp,HT1,HG1⟩:=hcut;have HGW:=ai ((only_below HBW.o (some b)).trans HG1.o);have hwc:w.heap.size+2≤wc.heap.size:=by have:=HG1.o.size;have:=HSW.o;omega
 have HSK1:=ai (HSK.o.tape HG1.o);have B41:=ai (B4.o.grown HG1.o (by simp;omega))
 have BR1:=ai (BR.o.grown HG1.o (by simp;omega))
 clear HT HBW HSK B4 BR HG1 HSW;clear hpd;have hb6: (L.next p 6 == 0) =true:=by rw [H6.o];rfl
 go_upto_region 3 with(go_at_call 10;refine(next_any _ b p L 6 HT1.o (by omega) (by decide) ⟨by decide,by decide⟩).mono ?_;rintro e x1 ⟨rfl,ht2,hg2⟩;have HT2:=ai ht2;have HG2:=ai (HGW.o.trans hg2);have BR2:=ai (BR1.o.grown hg2 (by simp;omega));have hx1:w.heap.size+2≤x1.heap.size:=Nat.le_trans hwc hg2.size;clear ht2 hg2)
 clear HT1 HGW HSK1 B41 BR1 hwc;go_upto_region 5 with(go_at_call 32;refine(mtypes_any _ b (p+1) L 2 ⟨by decide,by decide⟩ HT2.o (by omega)).mono ?_;rintro e x2 ⟨⟨o,rfl,hoi,how,ho1,ho3,hot⟩,⟨p2,hp3,hp4,ht3⟩,hg3⟩;have HOI:=ai hoi;have HOW:=ai how;have HOT:=ai hot;have HT3:=ai ht3;have HG3:=ai (HG2.o.trans hg3);have BR3:=ai (BR2.o.grown hg3 (by simp;omega));have hx2:w.heap.size+2≤x2.heap.size:=Nat.le_trans hx1 hg3.size;clear hoi how hot ht3 hg3)
 clear HT2 HG2 BR2;have HBX:=ai (Box.new x2 #[.int .i64 2,.string ⟨#[]⟩,.int .i64 0,.bool false,.int .i64 0,.int .i64 0,.int .i64 0,.string ⟨#[]⟩,.int .i64 0,.slice none 0 0,.slice none 0 0,.slice none 0 0,.slice o.h.ao o.l.length o.h.cap,.slice none 0 0,.slice none 0 0] 57);have HBL:=ai (belA (w:=x2) (.cells #[.int .i64 2,.string ⟨#[]⟩,.int .i64 0,.bool false,.int .i64 0,.int .i64 0,.int .i64 0,.string ⟨#[]⟩,.int .i64 0,.slice none 0 0,.slice none 0 0,.slice none 0 0,.slice o.h.ao o.l.length o.h.cap,.slice none 0 0,.slice none 0 0] 57))
 have hsz: (x2.alloc (.cells #[.int .i64 2,.string ⟨#[]⟩,.int .i64 0,.bool false,.int .i64 0,.int .i64 0,.int .i64 0,.string ⟨#[]⟩,.int .i64 0,.slice none 0 0,.slice none 0 0,.slice none 0 0,.slice o.h.ao o.l.length o.h.cap,.slice none 0 0,.slice none 0 0] 57)).heap.size=x2.heap.size+1:=by simp
 have HSZ:=ai hsz;clear hsz;have HVS:=ai (show VS w (x2.alloc (.cells #[.int .i64 2,.string ⟨#[]⟩,.int .i64 0,.bool false,.int .i64 0,.int .i64 0,.int .i64 0,.string ⟨#[]⟩,.int .i64 0,.slice none 0 0,.slice none 0 0,.slice none 0 0,.slice o.h.ao o.l.length o.h.cap,.slice none 0 0,.slice none 0 0] 57)) (x2.alloc (.cells #[.int .i64 2,.string ⟨#[]⟩,.int .i64 0,.bool false,.int .i64 0,.int .i64 0,.int .i64 0,.string ⟨#[]⟩,.int .i64 0,.slice none 0 0,.slice none 0 0,.slice none 0 0,.slice o.h.ao o.l.length o.h.cap,.slice none 0 0,.slice none 0 0] 57)) b x2.heap.size L p2 o (.slice none 0 0) nilHd [] []from
  ⟨HG3.o.trans (only_below HBL.o _),⟨by omega,by have:=HSZ.o;omega⟩,HLW.o,HT3.o.mono HBL.o,Kept.refl _ _ _,HBX.o,World.ownsRow_nil _ _ _ _,Els.nil,Els.nil⟩)
 have HOI2:=ai (HOI.o.mono HBL.o);have HOW2:=ai (show OwnIL x1.heap.size _ o from own_bel2 HOW.o HBL.o)
 have HOB:=ai (show∀g,o.h.ob=some g→g<x2.heap.size from fun g e=>(own_ob HOW.o e).2.1)
 have BR4:=ai (BR3.o.below HBL.o);clear HOI HOW BR3 HG3 HT3 HBX HBL;generalize x2.alloc (.cells #[.int .i64 2,.string ⟨#[]⟩,.int .i64 0,.bool false,.int .i64 0,.int .i64 0,.int .i64 0,.string ⟨#[]⟩,.int .i64 0,.slice none 0 0,.slice none 0 0,.slice none 0 0,.slice o.h.ao o.l.length o.h.cap,.slice none 0 0,.slice none 0 0] 57) =Z at *;generalize hbp:x2.heap.size=bp at *;have HOK:=ai (show∀x,Kept b bp Z x→o.In x∧OwnIL x1.heap.size x o∧Box x (w.heap.size+1) #[.int .i64 0,.string ⟨#[]⟩,.int .i64 0,.bool false,.int .i64 0,.int .i64 0,.int .i64 0,.string ⟨#[]⟩,.int .i64 0,.slice none 0 0,.slice none 0 0,.slice none 0 0,.slice none 0 0,.slice none 0 0,.slice none 0 0] 57 from fun x hx=>by
  have hoo: ∀g,o.h.ob=some g→x.heap[g]? = Z.heap[g]? :=fun g e=>hx.1 g (by have:=HOB.o g e;have:=HSZ.o;omega) (by have h1:=(own_ob HOW2.o e).1;omega) (by have:=HOB.o g e;omega)
  refine⟨il_kept2 HOI2.o hx (fun hp=>by have:=HOW2.o.ge hp;omega) (fun hp=> ?_),own_same HOW2.o fun g e=>hoo g (by rw [Hd.ob_eq]at e;exact e),hx.box BR4.o (by omega) (by omega)⟩
  have h1:o.h.ob=some o.h.b:=by
   rcases hh:o.h.ao with _|ad
   ·rcases HOI2.o.1 with⟨-,-,h3,-⟩
    have:=(h3 hp).1;rw [hh]at this;simp at this
   ·simp [Hd.ob,Hd.b,hh]
  have:=HOB.o _ h1;omega)
 clear HOI2 HOW2 BR4;obtain⟨m,hm,hm3⟩:=nat_next L p2 (n:=3) (by decide)
 have HM:=ai hm;clear hm;obtain⟨i0,hi,hz0,hz1,hz2⟩:=info_parts info_vals;have HI:=ai (And.intro hi (And.intro hz0 (And.intro hz1 hz2)));clear hi hz0 hz1 hz2;go_wp2_with (go_at_call 10;refine(next_any _ b p2 L 3 HVS.o.tp (by omega) (by decide) ⟨by decide,by decide⟩).mono ?_;rintro e x3 ⟨rfl,ht2,hg2⟩;rw [HM.o];have HV1:=ai (HVS.o.tape hg2 ht2);clear ht2 hg2)
 go_loopw [10] (fun i z=>∃(k:Nat) (rh:Hd) (rs:List VL) (q:Nat),i = .int .i64 k∧k≤m∧(p2≤q∧q+12*k≤p2+1+12*m)∧Hid (rs.length+k=m)∧Hid (∀r∈rs,r.l.length≤3)∧Hid (VS w Z z b bp L q o (.slice rh.ao rs.length rh.cap) rh rs [])) (fun i _=>(intOf i).toNat)
 case atStart=>exact⟨m,nilHd,[],p2+1,rfl,Nat.le_refl _,⟨by omega,Nat.le_refl _⟩,(by show Hid _;exact ai (by simp)),fun r hr=>(by cases hr),HV1.o⟩
 case round=>
  clear HVS HV1;obtain⟨k,rh,rs,q,rfl,hk,hq,HL,HRS,HV⟩:=hrel;have hrl:rs.length≤2:=by have:=HL.o;omega
  by_cases hk0: (k:Int) > 0
  ·have hwk:IntKind.i64.wrap ((k:Int) - 1) = ((k - 1:Nat) :Int):=by rw [IntKind.wrap_i64];omega
   have k0:wr.cell? ⟨bp,13,none⟩ =some (.slice rh.ao rs.length rh.cap):=HV.o.bx.cell (j:=13) rfl
   go_upto_region 8 with fail
   go_region_law (first
    | (refine step_append_lies _ (by rfl) _ _ _ (by rfl) Z.heap.size 79 i0 _ 1 24 Tryd.underlying54 HI.o.1 HI.o.2.1 HI.o.2.2.1 HI.o.2.2.2 rfl (by decide) (.slice rh.ao rs.length rh.cap) rs.length (rs.flatMap VL.cells) (by rfl) HV4.o.ov ⟨x4.heap.size,0,none⟩ 1 1 [.slice r.h.ao r.l.length r.h.cap] (by rfl) (by rfl) new_cells (by intro u hu;rw [List.mem_singleton.1 hu];rfl) (by decide) (by unfold maxLen;omega) (by omega) HV4.o.kp.2 (x4.heap.size+1) (by simp) ?_;intro g cap z3 hown hgr hat _;have HV5:=ai (HV4.o.app hown hgr (by simpa using hat));have k3:=HV5.o.bx.cell (j:=13) rfl;have f3:=HV5.o.bx.fr 13;clear hown hgr hat)
    | (go_simp;go_at_call 33;refine(mrow_any _ b q L o (fun x hx=>(HOK.o x (Kept.trans2 (Kept.drew HV.o.kp) hx)).1) HOT.o (by omega) (HV.o.tp.mono (bel_self _)) (by omega)).mono ?_;rintro e x4 ⟨⟨r,rfl,hri,hrf,hrn⟩,⟨q2,hq3,hq4,ht3⟩,hg3⟩;have hv3:=(HV.o.below (bel_self _)).push hg3 ht3 hri hrf;have HRN:=ai hrn;have HV4:=ai (hv3.below (belA (.cells #[.slice r.h.ao r.l.length r.h.cap] 79)));have k1:=hv3.bx.cell (j:=13) rfl;have k2:=HV4.o.bx.cell (j:=13) rfl;clear hri hrf hrn ht3 hg3 hv3))
   all_goals
    have HVF:=ai (HV5.o.store (n:=rs.length+1) (by simp))
    go_wp2_with fail
    go_roundw
   all_goals first
    | (case rel=>exact⟨k - 1,_,_,q2,by go_num,by omega,⟨by omega,by omega⟩,(by show Hid _;rw [List.length_append];have:=HL.o;exact ai (by show rs.length+1+ (k - 1) =m;omega)),(fun r' hr'=>by
      rcases List.mem_append.1 hr' with hr'|hr'
      ·exact HRS.o r' hr'
      ·rw [List.mem_singleton.1 hr'];have:=HRN.o;omega),HVF.o⟩)
    | (case measure=>simp [intOf];omega)
    | trace_state
  ·have hk1:k=0:=by omega
   subst hk1;have HOZ:=ai (HOK.o _ HV.o.kp);have HQF:=ai (vals_qo (s:=s) HV.o (B:=w.heap.size+2) (by have:=HSZ.o;omega) (base_own HOZ.o.2.1 (by omega)) (fun g e=>by have:=HOB.o g e;have:=HSZ.o;omega) HOZ.o.1 (by omega) HOT.o hrl HRS.o)
   obtain⟨y0,y1,y2,y3,y4,y5,y6,y7,y8,y9,y10,y11,y12,y13,y14⟩:=HV.o.bx.c15;obtain⟨e0,e1,e2,e3,e4,e5,e6,e7,e8,e9,e10,e11,e12,e13,e14⟩:=HOZ.o.2.2.c15;obtain⟨f0,f1,f2,f3,f4,f5,f6,f7,f8,f9,f10,f11,f12,f13,f14⟩:=HOZ.o.2.2.f15
   go_wp2_with fail
   have HD:=ai (q_done HQF.o (Nat.le_refl _) (w:=w) (r:=w.heap.size+1) (a:=a) (n:=40) (by omega) (by omega) (by omega) (by omega) HV.o.tp HV.o.gb HLW.o)
   have HRR:=ai (box15 HOZ.o.2.2 (.int .i64 2) (.string ⟨#[]⟩) (.int .i64 0) (.bool false) (.int .i64 0) (.int .i64 0) (.int .i64 0) (.string ⟨#[]⟩) (.int .i64 0) (.slice none 0 0) (.slice none 0 0) (.slice none 0 0) (.slice o.h.ao o.l.length o.h.cap) (.slice rh.ao rs.length rh.cap) (.slice none 0 0));obtain⟨r0,r1,r2,r3,r4,r5,r6,r7,r8,r9,r10,r11,r12,r13,r14⟩:=HRR.o.c15;exact bodyPost_ret (v:=.tuple #[.agg #[.int .i64 2,.string ⟨#[]⟩,.int .i64 0,.bool false,.int .i64 0,.int .i64 0,.int .i64 0,.string ⟨#[]⟩,.int .i64 0,.slice none 0 0,.slice none 0 0,.slice none 0 0,.slice o.h.ao o.l.length o.h.cap,.slice rh.ao rs.length rh.cap,.slice none 0 0],.slice o.h.ao o.l.length o.h.cap]) (by simp [results,Tryd.results13,go_sem,r0,r1,r2,r3,r4,r5,r6,r7,r8,r9,r10,r11,r12,r13,r14]) rfl HD.o
end Go.Proofs.YtogalchclmmfgaaDoor
namespace Go.Proofs.YtogalchclmmfgaaDoor
open Go.RowKit
theorem query_scan {d:Int} (w:World) (b a:Nat) (L:IL) (s:Sch) (E:Nat) (hsk:SKd b s E w) (_hE:E≤w.heap.size) (ht:TapeIn w b L a) (ha:a+40≤4611686018427370000) (h5:d≤1∨L.next a 5=0) (p:Nat) (hpd: (d≤1→p=a)∧(¬d≤1→p=a+1)) (h6:L.next p 6≠0) :
  Calls Tryd.prog 13 #[.pointer (some ⟨b,0,none⟩),.agg #[.slice s.th.ao s.tabs.length s.th.cap],.int .i64 d] w fun e w'=>QOut s w w' b a 40 10 L e:=by
 have HBW:=ai (belAA (w:=w) (.cells #[.slice s.th.ao s.tabs.length s.th.cap] 28) (.cells #[.int .i64 0,.string ⟨#[]⟩,.int .i64 0,.bool false,.int .i64 0,.int .i64 0,.int .i64 0,.string ⟨#[]⟩,.int .i64 0,.slice none 0 0,.slice none 0 0,.slice none 0 0,.slice none 0 0,.slice none 0 0,.slice none 0 0] 57))
 have B4:=ai ((Box.new w #[.slice s.th.ao s.tabs.length s.th.cap] 28).below (belA (.cells #[.int .i64 0,.string ⟨#[]⟩,.int .i64 0,.bool false,.int .i64 0,.int .i64 0,.int .i64 0,.string ⟨#[]⟩,.int .i64 0,.slice none 0 0,.slice none 0 0,.slice none 0 0,.slice none 0 0,.slice none 0 0,.slice none 0 0] 57)));have BR:=ai (Box.new (w.alloc (.cells #[.slice s.th.ao s.tabs.length s.th.cap] 28)) #[.int .i64 0,.string ⟨#[]⟩,.int .i64 0,.bool false,.int .i64 0,.int .i64 0,.int .i64 0,.string ⟨#[]⟩,.int .i64 0,.slice none 0 0,.slice none 0 0,.slice none 0 0,.slice none 0 0,.slice none 0 0,.slice none 0 0] 57);simp only [World.size_alloc]at BR;have HSK:=ai (hsk.below HBW.o);have HT:=ai (ht.mono HBW.o);have HLW:=ai ht.low;have hbl:=ht.lt;have H5:=ai h5;have H6:=ai h6;clear hsk ht h5 h6
 go_enter Tryd.func13,Tryd.ntmps13;go_upto_region 1 with(fail)
 have HSW:=ai (show((w.alloc (.cells #[.slice s.th.ao s.tabs.length s.th.cap] 28)).alloc (.cells #[.int .i64 0,.string ⟨#[]⟩,.int .i64 0,.bool false,.int .i64 0,.int .i64 0,.int .i64 0,.string ⟨#[]⟩,.int .i64 0,.slice none 0 0,.slice none 0 0,.slice none 0 0,.slice none 0 0,.slice none 0 0,.slice none 0 0] 57)).heap.size=w.heap.size+2 from by simp)
 generalize (w.alloc (.cells #[.slice s.th.ao s.tabs.length s.th.cap] 28)).alloc (.cells #[.int .i64 0,.string ⟨#[]⟩,.int .i64 0,.bool false,.int .i64 0,.int .i64 0,.int .i64 0,.string ⟨#[]⟩,.int .i64 0,.slice none 0 0,.slice none 0 0,.slice none 0 0,.slice none 0 0,.slice none 0 0,.slice none 0 0] 57) =W at *;go_cut [30] (fun cv wx=>cv = .bool true∧(a≤p∧p≤a+1)∧Hid (TapeIn wx b L p)∧Hid (W.grownBy wx (some b)))
 case first=>
  by_cases hd:d≤1
  ·go_wp2_with fail
   go_meet
   have hpe:=hpd.1 hd;exact⟨rfl,⟨by omega,by omega⟩,(by rw [hpe];exact HT.o),World.grownBy.refl _ _⟩
  ·have hb5: (L.next a 5 == 0) =true:=by
    have:=H5.o;rw [show L.next a 5=0 by omega]
    rfl
   go_wp2_with (go_at_call 10;refine(next_any _ b a L 5 HT.o (by omega) (by decide) ⟨by decide,by decide⟩).mono ?_;rintro e w1 ⟨rfl,ht2,hg2⟩;have HT1:=ai ht2;have HG1:=ai hg2;clear ht2 hg2)
   go_meet
   have hpe:=hpd.2 hd;exact⟨rfl,⟨by omega,by omega⟩,(by rw [hpe];exact HT1.o),HG1.o⟩
 case rest=>
 obtain⟨rfl,hp,HT1,HG1⟩:=hcut;have HGW:=ai ((only_below HBW.o (some b)).trans HG1.o);have hwc:w.heap.size+2≤wc.heap.size:=by have:=HG1.o.size;have:=HSW.o;omega
 have HSK1:=ai (HSK.o.tape HG1.o);have B41:=ai (B4.o.grown HG1.o (by simp;omega))
 have BR1:=ai (BR.o.grown HG1.o (by simp;omega))
 clear HT HBW HSK B4 BR HG1 HSW;clear hpd;have hb6: (L.next p 6 == 0) =false:=beq_eq_false_iff_ne.2 H6.o;go_upto_region 10 with(go_at_call 10;refine(next_any _ b p L 6 HT1.o (by omega) (by decide) ⟨by decide,by decide⟩).mono ?_;rintro e x1 ⟨rfl,ht2,hg2⟩;have HT2:=ai ht2;have HG2:=ai (HGW.o.trans hg2);have BR2:=ai (BR1.o.grown hg2 (by simp;omega));have B42:=ai (B41.o.grown hg2 (by simp;omega));have HSK2:=ai (HSK1.o.tape hg2);have hx1:w.heap.size+2≤x1.heap.size:=Nat.le_trans hwc hg2.size;clear ht2 hg2)
 clear HT1 HGW HSK1 B41 BR1 hwc;have hnt:=HSK2.o.nt;obtain⟨i,hi,hi3⟩:=nat_next L (p+1) (n:=(s.tabs.length:Int)) (by omega)
 have HNI:=ai hi;have hit:i<s.tabs.length:=by omega
 clear hi;have HSI:=ai (show∀w',Kept b b x1 w'→s.In w' from fun w' hk=>(HSK2.o.dep.kept hk (fun hd=>hd.2 rfl) (fun hd=>hd.2 rfl)).now)
 have hix:=HSK2.o.dep.now.rt.ix hit Tryd.underlying26 sz22;obtain⟨t,htt⟩ : ∃t,s.tabs[i] =t:=⟨_,rfl⟩;have HTT:=ai htt;have y4: ∀w',Kept b b x1 w'→w'.cell? ⟨w.heap.size,0,none⟩ =some (.slice s.th.ao s.tabs.length s.th.cap):=fun w' hk=>(hk.box B42.o (by omega) (by omega)).cell (j:=0) rfl
 have t0: ∀w',Kept b b x1 w'→w'.cell? ⟨s.th.b,s.th.o+i*6,none⟩ =some (.string t.name):=fun w' hk=>(by have h:=(tab_at (HSI.o w' hk).rt hit).1;rw [htt]at h;exact h);have t1: ∀w',Kept b b x1 w'→w'.cell? ⟨s.th.b,s.th.o+i*6+1,none⟩ =some (.slice t.ch.ao t.cols.length t.ch.cap):=fun w' hk=>(by have h:=(tab_at (HSI.o w' hk).rt hit).2.1;rw [htt]at h;exact h);have t2: ∀w',Kept b b x1 w'→w'.cell? ⟨s.th.b,s.th.o+i*6+2,none⟩ =some (.slice t.prim.h.ao t.prim.l.length t.prim.h.cap):=fun w' hk=>(by have h:=(tab_at (HSI.o w' hk).rt hit).2.2.1;rw [htt]at h;exact h);have t3: ∀w',Kept b b x1 w'→w'.cell? ⟨s.th.b,s.th.o+i*6+3,none⟩ =some (.slice t.uh.ao t.uniqs.length t.uh.cap):=fun w' hk=>(by have h:=(tab_at (HSI.o w' hk).rt hit).2.2.2.1;rw [htt]at h;exact h);have t4: ∀w',Kept b b x1 w'→w'.cell? ⟨s.th.b,s.th.o+i*6+4,none⟩ =some (.slice t.fh.ao t.fors.length t.fh.cap):=fun w' hk=>(by have h:=(tab_at (HSI.o w' hk).rt hit).2.2.2.2.1;rw [htt]at h;exact h);have t5: ∀w',Kept b b x1 w'→w'.cell? ⟨s.th.b,s.th.o+i*6+5,none⟩ =some (.slice t.kh.ao t.checks.length t.kh.cap):=fun w' hk=>(by have h:=(tab_at (HSI.o w' hk).rt hit).2.2.2.2.2;rw [htt]at h;exact h)
 clear htt;go_cut [11] (fun pv wx=>∃g:Nat,pv = .pointer (some ⟨g,0,none⟩)∧Hid (Box wx g #[.string t.name,.slice t.ch.ao t.cols.length t.ch.cap,.slice t.prim.h.ao t.prim.l.length t.prim.h.cap,.slice t.uh.ao t.uniqs.length t.uh.cap,.slice t.fh.ao t.fors.length t.fh.cap,.slice t.kh.ao t.checks.length t.kh.cap] 39)∧x1.heap.size≤g∧Hid (Kept b b x1 wx)∧Hid (x1.grownBy wx (some b))∧Hid (TapeIn wx b L (p+1+1)))
 case first=>
  have hn64: (s.tabs.length:Int)≤3:=by omega
  have hbx1:b<x1.heap.size:=by omega
  go_region_held3 (fun w'=>Kept b b x1 w') ((with_reducible first|exact Kept.drew (Kept.refl _ _ _) |exact Kept.drew (Kept.alloc (Kept.refl _ _ _) _) |exact HK2.o.alloc _|exact Kept.grown (by assumption) (by assumption) |exact Kept.alloc (by assumption) _|exact Kept.new6 (by assumption) (by omega) _ _ _ _ _ _|exact Kept.set15 (by assumption) _ _ _ _ _ _ _ _ _ _ _ _ _ _ _))
   (first
    | (go_at_call 10;refine(next_any _ b (p+1) L (s.tabs.length:Int) (by first|exact HT2.o.mono (bel_self _) |exact HT2.o.mono (belD _)) (by omega) (by omega) ⟨by omega,by omega⟩).mono ?_;rintro _ x2 ⟨rfl,ht2,hg2⟩;rw [HNI.o];have HT3:=ai ht2;have HK2:=ai (show Kept b b x1 x2 from by first|exact Kept.grown (Kept.drew (Kept.refl _ _ _)) hg2|exact Kept.grown (Kept.drew (Kept.alloc (Kept.refl _ _ _) _)) hg2);have HG3:=ai (show x1.grownBy x2 (some b)from by first|exact(only_below (bel_self _) _).trans hg2|exact(only_below (belD _) _).trans hg2);have hs2:x1.heap.size≤x2.heap.size:=HK2.o.2;(first| (have HBZ:=ai ((show Box (x1.alloc (.cells #[.string ⟨#[]⟩,.slice none 0 0,.slice none 0 0,.slice none 0 0,.slice none 0 0,.slice none 0 0] 39)).drew x1.heap.size #[.string ⟨#[]⟩,.slice none 0 0,.slice none 0 0,.slice none 0 0,.slice none 0 0,.slice none 0 0] 39 from Box.new x1 #[.string ⟨#[]⟩,.slice none 0 0,.slice none 0 0,.slice none 0 0,.slice none 0 0,.slice none 0 0] 39).grown hg2 (fun h=>absurd (Option.some.inj h) (Nat.ne_of_gt hbx1)));have e0:=HBZ.o.cell (j:=0) rfl;have f0:=HBZ.o.fr 0;have e1:=HBZ.o.cell (j:=1) rfl;have f1:=HBZ.o.fr 1;have e2:=HBZ.o.cell (j:=2) rfl;have f2:=HBZ.o.fr 2;have e3:=HBZ.o.cell (j:=3) rfl;have f3:=HBZ.o.fr 3;have e4:=HBZ.o.cell (j:=4) rfl;have f4:=HBZ.o.fr 4;have e5:=HBZ.o.cell (j:=5) rfl;have f5:=HBZ.o.fr 5) |skip);clear ht2))
  ·go_wp2_with fail
   go_meet
   exact⟨x2.heap.size,rfl,Box.new x2 #[.string t.name,.slice t.ch.ao t.cols.length t.ch.cap,.slice t.prim.h.ao t.prim.l.length t.prim.h.cap,.slice t.uh.ao t.uniqs.length t.uh.cap,.slice t.fh.ao t.fors.length t.fh.cap,.slice t.kh.ao t.checks.length t.kh.cap] 39,hs2,HK2.o.alloc _,HG3.o.trans (only_below (belA (.cells #[.string t.name,.slice t.ch.ao t.cols.length t.ch.cap,.slice t.prim.h.ao t.prim.l.length t.prim.h.cap,.slice t.uh.ao t.uniqs.length t.uh.cap,.slice t.fh.ao t.fors.length t.fh.cap,.slice t.kh.ao t.checks.length t.kh.cap] 39)) _),HT3.o.mono (belA (.cells #[.string t.name,.slice t.ch.ao t.cols.length t.ch.cap,.slice t.prim.h.ao t.prim.l.length t.prim.h.cap,.slice t.uh.ao t.uniqs.length t.uh.cap,.slice t.fh.ao t.fors.length t.fh.cap,.slice t.kh.ao t.checks.length t.kh.cap] 39))⟩
  ·go_wp2_with fail
   go_meet
   exact⟨x1.heap.size,rfl,box6 HBZ.o _ _ _ _ _ _,Nat.le_refl _,HK2.o.new6 (Nat.le_refl _) _ _ _ _ _ _,gb_then HG3.o (set6b _ _ _ _ _ _ _ _) (Nat.le_refl _),tz2 HT3.o (set6b _ _ _ _ _ _ _ _) HLW.o (by omega)⟩
 case rest=>
  obtain⟨g,rfl,HBT,hgx,HKC,HGC,HTC⟩:=hcut;clear t0 t1 t2 t3 t4 t5 y4;have hwx:x1.heap.size≤wc.heap.size:=HKC.o.2;have HSK3:=ai (show SKd b s E wc from⟨HSK2.o.dep.kept HKC.o (fun hd=>hd.2 rfl) (fun hd=>hd.2 rfl),HSK2.o.nt,HSK2.o.nc,HSK2.o.ct,HSK2.o.nm⟩)
  have HTI:=ai (show t.In wc from HTT.o▸(HSI.o wc HKC.o).ts _ (List.getElem_mem hit))
  have HTL:=ai (show t.cols.length≤100 from by have:=HSK2.o.nc _ (List.getElem_mem hit);rw [HTT.o]at this;omega)
  have BRC:=ai (HKC.o.box BR2.o (by omega) (by omega))
  clear HSK2 HSI hix BR2 B42 HT2;have c0: ∀w',Kept b (w.heap.size+1) wc w'→w'.cell? ⟨g,0,none⟩ =some (.string t.name):=fun w' hk=>(hk.box HBT.o (by omega) (by omega)).cell (j:=0) rfl;have c1: ∀w',Kept b (w.heap.size+1) wc w'→w'.cell? ⟨g,1,none⟩ =some (.slice t.ch.ao t.cols.length t.ch.cap):=fun w' hk=>(hk.box HBT.o (by omega) (by omega)).cell (j:=1) rfl;have c2: ∀w',Kept b (w.heap.size+1) wc w'→w'.cell? ⟨g,2,none⟩ =some (.slice t.prim.h.ao t.prim.l.length t.prim.h.cap):=fun w' hk=>(hk.box HBT.o (by omega) (by omega)).cell (j:=2) rfl;have c3: ∀w',Kept b (w.heap.size+1) wc w'→w'.cell? ⟨g,3,none⟩ =some (.slice t.uh.ao t.uniqs.length t.uh.cap):=fun w' hk=>(hk.box HBT.o (by omega) (by omega)).cell (j:=3) rfl;have c4: ∀w',Kept b (w.heap.size+1) wc w'→w'.cell? ⟨g,4,none⟩ =some (.slice t.fh.ao t.fors.length t.fh.cap):=fun w' hk=>(hk.box HBT.o (by omega) (by omega)).cell (j:=4) rfl;have c5: ∀w',Kept b (w.heap.size+1) wc w'→w'.cell? ⟨g,5,none⟩ =some (.slice t.kh.ao t.checks.length t.kh.cap):=fun w' hk=>(hk.box HBT.o (by omega) (by omega)).cell (j:=5) rfl
  go_upto_region 11 with fail
  go_region_held3 (fun w'=>Kept b (w.heap.size+1) wc w') ((with_reducible first|exact Kept.drew (Kept.refl _ _ _) |exact Kept.drew (Kept.alloc (Kept.refl _ _ _) _) |exact HK2.o.alloc _|exact Kept.grown (by assumption) (by assumption) |exact Kept.alloc (by assumption) _|exact Kept.new6 (by assumption) (by omega) _ _ _ _ _ _|exact Kept.set15 (by assumption) _ _ _ _ _ _ _ _ _ _ _ _ _ _ _))
   (first
    | (go_at_call 20;refine(rtypes_new t _ (HTI.o.mono (bel_self _)) HTL.o).mono ?_;rintro _ x3 ⟨⟨l,rfl,hr,hri,hrn⟩,hb4⟩;have hgr4:=only_below hb4 (some b);have HB4:=ai (bel_drew hb4);have HR:=ai hr;have HRI:=ai hri;have HRN:=ai (show 0<l.l.length→wc.heap.size≤l.h.b from hrn);have BR3:=ai (BRC.o.below HB4.o);clear hr hri hrn hb4;obtain⟨e0,e1,e2,e3,e4,e5,e6,e7,e8,e9,e10,e11,e12,e13,e14⟩:=BR3.o.c15;obtain⟨f0,f1,f2,f3,f4,f5,f6,f7,f8,f9,f10,f11,f12,f13,f14⟩:=BR3.o.f15))
  have HG5:=ai ((HG2.o.trans HGC.o).trans (only_below HB4.o _));have HT5:=ai (HTC.o.mono HB4.o);have hs3:=HB4.o.size;have HQO:=ai (show QO s (w.heap.size+2) x3.heap.size x3 (scnQ t.name) l 10 from by
   have h:=scan_qo (o:=l) (B:=w.heap.size+2) (HSK3.o.below HB4.o) hit (by omega) HRI.o (fun hp=>by have:=HRN.o hp;omega) (by rw [HTT.o];exact HR.o)
   rw [HTT.o]at h;exact h)
  go_wp2_with fail
  have HD:=ai (q_done HQO.o (Nat.le_refl _) (w:=w) (r:=w.heap.size+1) (a:=a) (n:=40) (by omega) (by omega) (by omega) (by omega) HT5.o HG5.o HLW.o)
  have HRR:=ai (box15 BR3.o (.int .i64 1) (.string t.name) (.int .i64 0) (.bool false) (.int .i64 0) (.int .i64 0) (.int .i64 0) (.string ⟨#[]⟩) (.int .i64 0) (.slice none 0 0) (.slice none 0 0) (.slice none 0 0) (.slice none 0 0) (.slice none 0 0) (.slice none 0 0));obtain⟨r0,r1,r2,r3,r4,r5,r6,r7,r8,r9,r10,r11,r12,r13,r14⟩:=HRR.o.c15;exact bodyPost_ret (v:=.tuple #[.agg #[.int .i64 1,.string t.name,.int .i64 0,.bool false,.int .i64 0,.int .i64 0,.int .i64 0,.string ⟨#[]⟩,.int .i64 0,.slice none 0 0,.slice none 0 0,.slice none 0 0,.slice none 0 0,.slice none 0 0,.slice none 0 0],.slice l.h.ao l.l.length l.h.cap]) (by simp [results,Tryd.results13,go_sem,r0,r1,r2,r3,r4,r5,r6,r7,r8,r9,r10,r11,r12,r13,r14]) rfl HD.o
end Go.Proofs.YtogalchclmmfgaaDoor

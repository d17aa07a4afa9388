/- conjunctive.(*matcher).becomes. -/
import Derived.Test.YtiijaaohphokcaaGreatDoorG07
import Derived.StillTailTactics
import Derived.Deep.DeepCutAuto
set_option maxRecDepth 100000
set_option maxHeartbeats 16000000
namespace Go.Proofs.YtiijaaohphokcaaGreatDoor
open Go.RowKit
theorem hy_of {W:World} {b o:Nat} {v:Value} (h:W.cell? ⟨b,o,none⟩ =some v) : ∀w',Below W.heap.size W w'→w'.cell? ⟨b,o,none⟩ =some v:=fun w' hb=>by
 rw [hb.cell (p:=⟨b,o,none⟩) (World.block_lt_of_cell? W ⟨b,o,none⟩ h)];exact h
abbrev nats (l:List Nat) :List Value:=l.map fun v=>.int .i64 (v:Nat)
theorem nats_snoc (l:List Nat) (v:Nat) :nats (l ++ [v]) =nats l ++ [.int .i64 (v:Nat)]:=by simp [nats]
theorem own_nats {w:World} {base:Nat} {v:Value} {l:List Nat} (h:w.ownsRow base 3 1 v l.length (nats l)) (hl: ∀x∈l,x≤1000) : ∃r:IL,v = .slice r.h.ao r.l.length r.h.cap∧r.l=l.map Int.ofNat∧r.In w∧(0<r.l.length→base≤r.h.b):=by
 have h1:w.ownsRow base 3 1 v (l.map Int.ofNat).length ((l.map Int.ofNat).flatMap icells):=by
  have e: (l.map Int.ofNat).flatMap icells=nats l:=by
   clear h hl
   induction l with
   | nil=>rfl
   | cons a l ih=>simp only [List.map_cons,List.flatMap_cons,ih,nats];rfl
  rw [e,List.length_map];exact h
 obtain⟨hd,hv,hr⟩:=own_row (size:=1) (cells:=icells) (fun _=>rfl) (by decide) h1
 refine⟨⟨hd,l.map Int.ofNat⟩,hv,rfl,⟨hr,fun n hn=> ?_⟩,fun hp=> ?_⟩
 ·obtain⟨x,hx,rfl⟩:=List.mem_map.1 hn
  have:=hl x hx
  show int64 (Int.ofNat x)
  constructor<;>simp<;>omega
 ·have h2:hd.ao=some ⟨hd.b,hd.o,none⟩:=(hr.2.2.1 hp).1
  have hv:v = .slice hd.ao (l.map Int.ofNat).length hd.cap:=hv;rw [h2]at hv;exact(h1.lt hd.b (by rw [hv];rfl)).1
theorem info_int: (Tryz.prog.info? 3).map (fun i=>(i.zero,i.size,i.bytes)) =some (some (.int .i64 0),1,8):=by kernel_rfl
def BecPost (w0:World) (gm gs gu n:Nat) (lv:Value) (q r:Cq) (single:Bool) (σ:Sb V) (us:Nat→Bool) (l k:TL) (w:World) (e:Ending) (w':World) :Prop:=
 ∃(σ':Sb V) (now:List Nat) (nl:IL) (ok:Bool),e = .returned (.tuple #[.slice nl.h.ao nl.l.length nl.h.cap,.bool ok])∧nl.l=now.map Int.ofNat∧nl.In w'∧(0<nl.l.length→w.heap.size≤nl.h.b)∧
   Back σ σ' now∧(∀v∈now,v<q.vars)∧MW w0 gm gs gu q r single σ' us n lv w'∧(if ok=true then Became single σ l.l k.l σ' else Bars single σ l.l k.l)∧w.grownBy w' (some gs)
theorem becomes_any (w0:World) (gm gs gu n:Nat) (lv:Value) (q r:Cq) (single:Bool) (σ:Sb V) (us:Nat→Bool) (l k:TL) (w:World) (hM:MW w0 gm gs gu q r single σ us n lv w) (hl:Row w0 4 Tm.cells l.h l.l) (hk:Row w0 4 Tm.cells k.h k.l) (hv: ∀x,Tm.v x∈l.l→x<q.vars) (hq:q.vars≤1000) (hll:l.l.length≤1000) :
  Calls Tryz.prog 86 #[.pointer (some ⟨gm,0,none⟩),.slice l.h.ao l.l.length l.h.cap,.slice k.h.ao k.l.length k.h.cap] w (BecPost w0 gm gs gu n lv q r single σ us l k w):=by
 have hln:=hl.len;have hkn:=hk.len;have HM:=ai hM;have HL:=ai hl;have HK:=ai hk;have HV:=ai hv;have HM1:=ai (hM.call (belA (.cells #[.slice k.h.ao k.l.length k.h.cap] 30)));have HKB:=ai (Box.new w #[.slice k.h.ao k.l.length k.h.cap] 30);obtain⟨i0,hi,hz0,hz1,hz2⟩:=info_parts info_int;have HI:=ai (And.intro hi (And.intro hz0 (And.intro hz1 hz2)));clear hi hz0 hz1 hz2 hM hl hk hv;by_cases hlen:l.l.length=k.l.length
 case neg=>
  have hb: ((l.l.length:Int) != (k.l.length:Int)) =true:=bne_iff_ne.2 (by omega)
  have HBR:=ai (bars_len (single:=single) (σ:=σ) hlen)
  clear hlen
  go_enter Tryz.func86,Tryz.ntmps86;go_wp2
  go_ret2
  exact⟨σ,[],⟨nilHd,[]⟩,false,rfl,rfl,⟨Row.nil _ _ _,fun _ h=>(by cases h)⟩,fun h=>(by cases h),Back.refl σ,fun _ h=>(by cases h),HM1.o,HBR.o,only_below (belA _) (some gs)⟩
 have hb: ((l.l.length:Int) != (k.l.length:Int)) =false:=by rw [hlen];exact bne_self_eq_false _
 have HLEN:=ai hlen;clear hlen
 go_enter Tryz.func86,Tryz.ntmps86;go_wp2;go_loopw [8,18] (fun nv i wr=>∃(m:Nat) (σi:Sb V) (now:List Nat) (u:Value),u=nv∧m≤l.l.length∧i = .int .i64 m∧Hid (wr.ownsRow (w.heap.size+1) 3 1 nv now.length (nats now))∧Hid (Became single σ (l.l.take m) (k.l.take m) σi)∧Hid (Back σ σi now)∧Hid (now.length≤m)∧Hid (∀v∈now,v<q.vars)∧Hid (MW w0 gm gs gu q r single σi us n lv wr)∧Hid (Box wr w.heap.size #[.slice k.h.ao k.l.length k.h.cap] 30)∧Hid (w.grownBy wr (some gs))) (fun _ i _=>l.l.length - (intOf i).toNat)
 case atStart=>exact⟨0,σ,[],_,rfl,Nat.zero_le _,rfl,ai (World.ownsRow_nil _ _ _ _),ai (Became.nil _ _),ai (Back.refl σ),ai (Nat.le_refl _),ai (fun _ h=>by cases h),HM1,HKB,ai (only_below (belA _) (some gs))⟩
 case round=>
 obtain⟨m,σi,now,u,rfl,hm,rfl,HO,HBC,HBK,HNM,HNV,HMW,HBX,HGW⟩:=hrel;have HNLEN:=ai (show now.length≤1000 from by have:=HNM.o;omega)
 clear HM1 HKB;by_cases hlt:m<l.l.length
 ·have hlti: (m:Int) <l.l.length:=by omega
  have HLR:=ai (HL.o.mono HMW.o.bel);have HKR:=ai (HK.o.mono HMW.o.bel);have hkm:m<k.l.length:=by rw [←HLEN.o];exact hlt
  have hixl:=HLR.o.ix hlt Tryz.underlying30 szslot;obtain⟨c0,c1,c2,c3⟩:=tm_at HLR.o hlt;obtain⟨t,ht⟩ : ∃t,l.l[m] =t:=⟨_,rfl⟩;have HTL:=ai (show l.l[m]? = some t from by rw [List.getElem?_eq_getElem hlt,ht])
  rw [ht]at c0 c1 c2 c3;have hixk:=HKR.o.ix hkm Tryz.underlying30 szslot;obtain⟨d0,d1,d2,d3⟩:=tm_at HKR.o hkm;obtain⟨s,hs⟩ : ∃s,k.l[m] =s:=⟨_,rfl⟩;have HSK:=ai (show k.l[m]? = some s from by rw [List.getElem?_eq_getElem hkm,hs])
  rw [hs]at d0 d1 d2 d3;clear ht hs;have HPK:=ai (show k.h.b<w0.heap.size∧TmAt w0 k.h.b (k.h.o+m*4) s from⟨HK.o.blk hkm,by have:=tm_at HK.o hkm;rw [(List.getElem?_eq_some_iff.1 HSK.o).2]at this;exact this⟩)
  have lk:k.h.b<wr.heap.size:=HKR.o.blk hkm;generalize l.h.o+m*4=pl at *;generalize k.h.o+m*4=pk at *;obtain⟨X,hX⟩ : ∃X,(wr.alloc (.cells #[.int .i64 (m:Nat)] 3)).alloc (.cells #[.int .i64 t.nr,.int .i64 t.val.kind,.int .i64 t.val.num,.string t.val.text] 83) =X:=⟨_,rfl⟩;have HBX2:=ai (show Below wr.heap.size wr X from by rw [←hX];exact belAA _ _)
  have HX9:=ai (show Box X wr.heap.size #[.int .i64 (m:Nat)] 3 from by rw [←hX];exact(Box.new _ _ _).below (belA _))
  have HX10:=ai (show Box X (wr.heap.size+1) #[.int .i64 t.nr,.int .i64 t.val.kind,.int .i64 t.val.num,.string t.val.text] 83 from by rw [←hX];have h:=Box.new (wr.alloc (.cells #[.int .i64 (m:Nat)] 3)) #[.int .i64 t.nr,.int .i64 t.val.kind,.int .i64 t.val.num,.string t.val.text] 83;simpa only [World.size_alloc]using h)
  have HXW:=ai (HMW.o.call HBX2.o);have HXB:=ai (HBX.o.below HBX2.o);have HXO:=ai (HO.o.kept (only_below HBX2.o none) (Classical.em _));have y0:=hy_of (HXB.o.cell (j:=0) rfl)
  have y1:=hy_of (HX9.o.cell (j:=0) rfl)
  have x0:=hy_of (HX10.o.cell (j:=0) rfl)
  have x1:=hy_of (HX10.o.cell (j:=1) rfl)
  have x2:=hy_of (HX10.o.cell (j:=2) rfl)
  have x3:=hy_of (HX10.o.cell (j:=3) rfl)
  have hk0:=hy_of (by rw [HBX2.o.cell (p:=⟨k.h.b,pk,none⟩) lk];exact d0:X.cell? ⟨k.h.b,pk,none⟩ =some (.int .i64 s.nr))
  have hk1:=hy_of (by rw [HBX2.o.cell (p:=⟨k.h.b,pk+1,none⟩) lk];exact d1:X.cell? ⟨k.h.b,pk+1,none⟩ =some (.int .i64 s.val.kind))
  have hk2:=hy_of (by rw [HBX2.o.cell (p:=⟨k.h.b,pk+2,none⟩) lk];exact d2:X.cell? ⟨k.h.b,pk+2,none⟩ =some (.int .i64 s.val.num))
  have hk3:=hy_of (by rw [HBX2.o.cell (p:=⟨k.h.b,pk+3,none⟩) lk];exact d3:X.cell? ⟨k.h.b,pk+3,none⟩ =some (.string s.val.text))
  clear d0 d1 d2 d3;have HRET:=ai (fun(Y:World) (hb:Below X.heap.size X Y) (hbar:Bars single σ l.l k.l)=>(by
   have ho:=HXO.o.kept (only_below hb none) (Classical.em _);obtain⟨nl,h1,h2,h3,h4⟩:=own_nats ho (fun x hx=>by have:=HNV.o x hx;omega)
   exact⟨nl,h1,h2,h3,fun hp=>Nat.le_of_succ_le (h4 hp),HXW.o.call hb,hbar,HGW.o.trans (only_below (bT HBX2.o hb) (some gs))⟩ : ∃nl:IL,u = .slice nl.h.ao nl.l.length nl.h.cap∧nl.l=now.map Int.ofNat∧nl.In Y∧(0<nl.l.length→w.heap.size≤nl.h.b)∧MW w0 gm gs gu q r single σi us n lv Y∧Bars single σ l.l k.l∧w.grownBy Y (some gs)))
  have hE:=ai (fun(a:Tm V) W=>equal_any a s W)
  have v1:=HX9.o.cell (j:=0) rfl
  have vb:=HXB.o.cell (j:=0) rfl
  cases t with
  | c kc=>
   have hnr: (Tm.c kc:Tm V).nr = -1:=rfl;rw [hnr]at x0 c0 hX;have v0:X.cell? ⟨wr.heap.size+1,0,none⟩ =some (.int .i64 (-1)):=HX10.o.cell (j:=0) rfl
   have HEC:=ai (hE.o (.c kc));rw [hnr]at HEC;have HSM:=ai (show tmEq (.c kc) s=true→Became single σ (l.l.take (m+1)) (k.l.take (m+1)) σi from fun h=>HBC.o.same HTL.o HSK.o (fun x e=>by cases e) (fun c e=>by rw [←(tmEq_iff _ _).1 h];exact e))
   have HBA:=ai (show tmEq (.c kc) s=false→Bars single σ l.l k.l from fun h=>HBC.o.bars HTL.o HSK.o (fun f _ e _=>by
    have e:Tm.c kc=s:=e;rw [(tmEq_iff _ _).2 e]at h;cases h))
   generalize tmEq (.c kc) s=rb at *;generalize (Tm.c kc:Tm V).val=tv at *;clear hnr hE;go_wp2;clear hX c0 c1 c2 c3 hixl v0 v1 vb
   go_region_held3 (fun w'=>Below X.heap.size X w') ((first|exact(Below.refl _ _).drew|exact bT (by assumption) (by assumption))) (first
    | (go_at_call 125;refine(HEC.o _).mono ?_;rintro e Y ⟨rfl,hb⟩))
   have HBY:=ai (show Below X.heap.size X Y by assumption)
   clear hb x0 x1 x2 x3 y0 y1 hk0 hk1 hk2 hk3
   cases rb
   ·obtain⟨nl,hu,h1,h2,h3,h4,h5,h6⟩:=HRET.o Y HBY.o (HBA.o rfl)
    subst hu;have HR:=ai (And.intro h1 (And.intro h2 (And.intro h3 (And.intro h4 (And.intro h5 h6)))));clear h1 h2 h3 h4 h5 h6;go_wp2
    go_ret2
    exact⟨σi,now,nl,false,rfl,HR.o.1,HR.o.2.1,HR.o.2.2.1,HBK.o,HNV.o,HR.o.2.2.2.1,HR.o.2.2.2.2.1,HR.o.2.2.2.2.2⟩
   ·have HB2:=ai (HSM.o rfl)
    go_wp2;go_roundw
    case rel=>exact⟨m+1,σi,now,u,rfl,by omega,by go_num,ai (HXO.o.kept (only_below HBY.o none) (Classical.em _)),HB2,HBK,ai (by have:=HNM.o;omega),HNV,ai (HXW.o.call HBY.o),ai (HXB.o.below HBY.o),ai (HGW.o.trans (only_below (bT HBX2.o HBY.o) (some gs)))⟩
    case measure=>simp [intOf];omega
  | v xv=>
   have hxv:xv<q.vars:=HV.o xv (List.mem_of_getElem? HTL.o);have hnr: (Tm.v xv:Tm V).nr= (xv:Int):=rfl;rw [hnr]at x0 c0 hX;have v0:X.cell? ⟨wr.heap.size+1,0,none⟩ =some (.int .i64 (xv:Nat)):=HX10.o.cell (j:=0) rfl
   have hne: ((xv:Int) == -1) =false:=beq_eq_false_iff_ne.2 (by omega)
   have hixs:=index_ptr Tryz.underlying133 szptr gs q.vars q.vars xv hxv;have m7:=HXW.o.box.cell (j:=7) rfl
   have hPT:=HXW.o.ptr xv hxv;generalize (Tm.v xv:Tm V).val=tv at *;clear hnr
   cases hsx:σi xv with
   | some t2=>
    obtain⟨b2,o2,p1,p2,g0⟩:=hPT.2 t2 hsx;have hTM:=p2.keep HXW.o.bel p1;have q0:=hy_of hTM.1;have q1:=hy_of hTM.2.1;have q2:=hy_of hTM.2.2.1;have q3:=hy_of hTM.2.2.2;have m7y:=hy_of m7;have g0y:=hy_of g0;have HEC:=ai (hE.o t2);have HSM:=ai (show tmEq t2 s=true→Became single σ (l.l.take (m+1)) (k.l.take (m+1)) σi from fun h=>HBC.o.same HTL.o HSK.o (fun x e=>by injection e with e;rw [←e,hsx,(tmEq_iff _ _).1 h]) (fun c e=>by cases e))
    have HBA:=ai (show tmEq t2 s=false→Bars single σ l.l k.l from fun h=>HBC.o.bars HTL.o HSK.o (fun f hf e _=>by
     have e:f xv=s:=e;rw [hf xv t2 hsx]at e;rw [(tmEq_iff _ _).2 e]at h;cases h))
    generalize tmEq t2 s=rb at *;clear hE hPT hTM hsx p2;go_wp2;clear hX c0 c1 c2 c3 hixl v1 vb
    go_quiet (fail)
    generalize hX1:X.drewN nq=X1;have HQ1:=ai (show Below X.heap.size X X1 from by rw [←hX1];exact below_drewN (Below.refl _ _) _)
    clear hX1 m7 g0 v0;go_wp2
    go_region_held3 (fun w'=>Below X.heap.size X w') ((first|exact HQ1.o.drew|exact bT (by assumption) (by assumption))) (first
     | (go_at_call 125;refine(HEC.o _).mono ?_;rintro e Y ⟨rfl,hb⟩))
    have HBY:=ai (show Below X.heap.size X Y by assumption)
    clear hb x0 x1 x2 x3 y0 y1 hk0 hk1 hk2 hk3 q0 q1 q2 q3 m7y g0y
    cases rb
    ·obtain⟨nl,hu,h1,h2,h3,h4,h5,h6⟩:=HRET.o Y HBY.o (HBA.o rfl)
     subst hu;have HR:=ai (And.intro h1 (And.intro h2 (And.intro h3 (And.intro h4 (And.intro h5 h6)))));clear h1 h2 h3 h4 h5 h6;go_wp2
     go_ret2
     exact⟨σi,now,nl,false,rfl,HR.o.1,HR.o.2.1,HR.o.2.2.1,HBK.o,HNV.o,HR.o.2.2.2.1,HR.o.2.2.2.2.1,HR.o.2.2.2.2.2⟩
    ·have HB2:=ai (HSM.o rfl)
     go_wp2;go_roundw
     case rel=>exact⟨m+1,σi,now,u,rfl,by omega,by go_num,ai (HXO.o.kept (only_below HBY.o none) (Classical.em _)),HB2,HBK,ai (by have:=HNM.o;omega),HNV,ai (HXW.o.call HBY.o),ai (HXB.o.below HBY.o),ai (HGW.o.trans (only_below (bT HBX2.o HBY.o) (some gs)))⟩
     case measure=>simp [intOf];omega
   | none=>
    have g0:=hPT.1 hsx;have g0y:=hy_of g0;have m7y:=hy_of m7;have m6y:=hy_of (HXW.o.box.cell (j:=6) rfl)
    have hsx2:=ai hsx;have HNL3:=ai (show now.length≤1000 from HNLEN.o)
    clear hE hPT hsx;go_wp2;clear hX c0 c1 c2 c3 hixl v1 vb
    go_quiet (fail)
    generalize hX1:X.drewN nq=X1;have HQ1:=ai (show Below X.heap.size X X1 from by rw [←hX1];exact below_drewN (Below.refl _ _) _)
    clear hX1 m7 g0 v0
    cases single with
    | false=>
     have HBD:=ai (HBC.o.bind HTL.o HSK.o hsx2.o (fun e=>by cases e))
     have m6:=m6y _ HQ1.o;go_wp2;clear m6;obtain⟨Y,hY⟩ : ∃Y,X1=Y:=⟨_,rfl⟩;have HBY:=ai (show Below X.heap.size X Y from by rw [←hY];exact HQ1.o)
     rw [hY];clear hY HQ1;have HYW:=ai (HXW.o.call HBY.o);have m7:=m7y _ HBY.o;have v0:=x0 _ HBY.o;have vb:=y0 _ HBY.o;have v1:=y1 _ HBY.o;have g0:=g0y _ HBY.o;have gf:=HYW.o.sf xv;have HYO:=ai (HXO.o.kept (only_below HBY.o none) (Classical.em _));have HYB:=ai (HXB.o.below HBY.o);go_wp2
     go_still_tail 10,(by kernel_rfl)
     change wpList _ _ _ _ _ Y.drew
     have HYW2:=ai (HYW.o.call (Below.refl _ _).drew);have HYO2:=ai (HYO.o.kept (only_below (Below.refl _ _).drew none) (Classical.em _));have HYB2:=ai (HYB.o.below (Below.refl _ _).drew);have v0:Y.drew.cell? ⟨wr.heap.size+1,0,none⟩ =some (.int .i64 (xv:Nat)):=v0;have g0:Y.drew.cell? ⟨gs,xv,none⟩ =some (.pointer none):=g0;have gf:Y.drew.frozen? ⟨gs,xv,none⟩ =false:=gf;have hsz2:wr.heap.size+1<Y.drew.heap.size:=World.block_lt_of_cell? _ ⟨wr.heap.size+1,0,none⟩ v0;have HGY:=ai ((HGW.o.trans (only_below (bT HBX2.o HBY.o) (some gs))).trans (only_below (Below.refl _ _).drew (some gs)) :w.grownBy Y.drew (some gs));generalize Y.drew=Y2 at *;have HYS:=ai (HYW2.o.setS hxv (some s) (.pointer (some ⟨k.h.b,pk,none⟩)) ⟨k.h.b,pk,HPK.o.1,HPK.o.2,rfl⟩);have hgsw:gs<w.heap.size:=HM.o.hi.2.1;have hgmw:gm<w.heap.size:=HM.o.hi.1;have hguw:gu<w.heap.size:=HM.o.hi.2.2;have HLVB:=ai (show∀j,lv.ownBlock=some j→j<w.heap.size from fun j e=>by obtain⟨xs,hx⟩:=HM.o.own;exact(hx.lt j e).2)
     have HUL:=ai HYO2.o.lt;have hwr:gs<wr.heap.size∧w.heap.size<wr.heap.size:=⟨HMW.o.hi.2.1,HBX.o.lt⟩;have v3: (Y2.setCell ⟨gs,xv,none⟩ (.pointer (some ⟨k.h.b,pk,none⟩))).cell? ⟨wr.heap.size+1,0,none⟩ =some (.int .i64 (xv:Nat)):=by rw [cell_set_far (by omega)];exact v0
     have HYO3:=ai (HYO2.o.kept (gb_set Y2 gs xv (.pointer (some ⟨k.h.b,pk,none⟩))) (.inr (fun e=>by have:=(HUL.o gs e).1;omega)))
     have HYB3:=ai (HYB2.o.grown (gb_set Y2 gs xv (.pointer (some ⟨k.h.b,pk,none⟩))) (by intro e;injection e with e;omega))
     have HGY3:=ai (HGY.o.trans (gb_set Y2 gs xv (.pointer (some ⟨k.h.b,pk,none⟩))));clear hwr;go_upto_region 10 with fail
     clear v0 g0 gf m7 vb v1 hsz2;generalize hY3:Y2.setCell ⟨gs,xv,none⟩ (.pointer (some ⟨k.h.b,pk,none⟩)) =Y3 at *;go_wp2_with (at_builtin;refine wpList_append_own _ rfl _ _ 22 rfl (w.heap.size+1) 3 i0 (.int .i64 0) 1 8 Tryz.underlying22 HI.o.1 HI.o.2.1 HI.o.2.2.1 HI.o.2.2.2 rfl (by decide) _ _ _ rfl (HYO3.o.alloc _) ⟨Y3.heap.size,0,none⟩ 1 1 [.int .i64 (xv:Nat)] rfl rfl (new_cells (l:= [.int .i64 (xv:Nat)])) (by intro a ha;rw [List.mem_singleton.1 ha];rfl) (by have:=HNL3.o;unfold maxLen;omega) (by have:=HNL3.o;omega) (by have:=HYB3.o.lt;simp;omega) ?_;intro nv2 Y4 hown4 hgr4 _)
     have HO4:=ai (show Y4.ownsRow (w.heap.size+1) 3 1 nv2 (now ++ [xv]).length (nats (now ++ [xv]))from by rw [nats_snoc,List.length_append];exact hown4)
     have HG4:=ai hgr4;clear hown4 hgr4 v3;have HW4:=ai ((HYS.o.call (belA _)).grown HG4.o (fun j e=>by have h1:=(HUL.o j e).1;have h2:=HM.o.bel.size;exact⟨by omega,by omega,by omega,by omega,fun h=>by have:=HLVB.o j h;omega⟩))
     have HB4:=ai ((HYB3.o.below (belA _)).grown HG4.o (fun e=>by have h1:=(HUL.o _ e.symm).1;omega))
     go_roundw
     case rel=>exact⟨m+1,σi.bind xv s,now ++ [xv],nv2,rfl,by omega,by go_num,HO4,HBD,ai (HBK.o.bind hsx2.o),ai (by have:=HNM.o;simp;omega),ai (fun v hv=>by rcases List.mem_append.1 hv with h|h;exact HNV.o v h;rw [List.mem_singleton.1 h];exact hxv),HW4,HB4,ai ((HGY3.o.trans (only_below (belA _) (some gs))).andThen HG4.o (fun j e=>.inl (by have:=(HUL.o j e).1;omega)))⟩
     case measure=>simp [intOf];omega
    | true=>
     have m6:=m6y _ HQ1.o;have m7a:=m7y _ HQ1.o;have vb:=y0 _ HQ1.o;have v1:=y1 _ HQ1.o;have k0:=hk0 _ HQ1.o;have HXW1:=ai (HXW.o.call HQ1.o);by_cases hsn:s.nr = -1
     ·have hb1: (s.nr == -1) =true:=beq_iff_eq.2 hsn
      have hbar:Bars true σ l.l k.l:=HBC.o.bars HTL.o HSK.o (fun f _ e hi=>by
       obtain⟨y,hy⟩:=(hi rfl).1 xv (.inr (List.mem_of_getElem? HTL.o));have e:f xv=s:=e;rw [hy]at e;rw [←e]at hsn;have: (y:Int) = -1:=hsn;omega)
      obtain⟨nl,hu,h1,h2,h3,h4,h5,h6⟩:=HRET.o X1 HQ1.o hbar;clear hsn hbar;subst hu;have HR:=ai (And.intro h1 (And.intro h2 (And.intro h3 (And.intro h4 (And.intro h5 h6)))));clear h1 h2 h3 h4 h5 h6;go_wp2
      go_ret2
      exact⟨σi,now,nl,false,rfl,HR.o.1,HR.o.2.1,HR.o.2.2.1,HBK.o,HNV.o,HR.o.2.2.2.1,HR.o.2.2.2.2.1,HR.o.2.2.2.2.2⟩
     ·have hb1: (s.nr == -1) =false:=beq_eq_false_iff_ne.2 hsn
      have hsv: ∃y,s = .v y:=by
       cases s with
       | v y=>exact⟨y,rfl⟩
       | c kc=>exact absurd rfl hsn
      have HSV:=ai hsv;have HCN:=ai (bcont_any w0 gs q.vars w.heap.size wr.heap.size m k σi X1 hq HXW1.o.ptr HXW1.o.hi.2.1 HXW1.o.bel hkm (HK.o.mono HXW1.o.bel) vb v1);rw [(List.getElem?_eq_some_iff.1 HSK.o).2]at HCN;have HBT:=ai (show bndP σi q.vars s=true→Bars true σ l.l k.l from fun h=>by
       obtain⟨y,hy,hh⟩:=List.any_eq_true.1 h;have hy2:=hitP_iff.1 hh;refine HBC.o.bars HTL.o HSK.o (fun f hf e hi=> ?_)
       have e:f xv=s:=e;have hyx:y=xv:=(hi rfl).2 y xv (by
        rcases HBC.o.dom y s hy2 with h1| ⟨_,h1⟩
        ·left;rw [h1];simp
        ·exact .inr (List.mem_of_mem_take h1)) (.inr (List.mem_of_getElem? HTL.o)) (by rw [hf y s hy2,e])
       rw [hyx,hsx2.o]at hy2
       cases hy2)
      have HBF:=ai (show bndP σi q.vars s=false→∀y,σi y≠some s from fun h y e=>by
       have hy:=HXW1.o.dom y s e;rw [bndP_yes hy (hitP_iff.2 e)]at h
       cases h)
      clear hsn hsv;generalize bndP σi q.vars s=rb at *
      cases rb
      ·have HBD:=ai (HBC.o.bind HTL.o HSK.o hsx2.o (fun _=>⟨HSV.o,HBF.o rfl⟩))
       go_wp2_with (go_at_call 126;refine HCN.o.mono ?_;rintro e Y ⟨rfl,hb⟩;have HBY:=ai (bT HQ1.o hb);clear hb m6 m7a vb v1 k0)
       have HYW:=ai (HXW.o.call HBY.o);have m7:=m7y _ HBY.o;have v0:=x0 _ HBY.o;have vb:=y0 _ HBY.o;have v1:=y1 _ HBY.o;have g0:=g0y _ HBY.o;have gf:=HYW.o.sf xv;have HYO:=ai (HXO.o.kept (only_below HBY.o none) (Classical.em _));have HYB:=ai (HXB.o.below HBY.o);go_wp2
       go_still_tail 10,(by kernel_rfl)
       change wpList _ _ _ _ _ Y.drew
       have HYW2:=ai (HYW.o.call (Below.refl _ _).drew);have HYO2:=ai (HYO.o.kept (only_below (Below.refl _ _).drew none) (Classical.em _));have HYB2:=ai (HYB.o.below (Below.refl _ _).drew);have v0:Y.drew.cell? ⟨wr.heap.size+1,0,none⟩ =some (.int .i64 (xv:Nat)):=v0;have g0:Y.drew.cell? ⟨gs,xv,none⟩ =some (.pointer none):=g0;have gf:Y.drew.frozen? ⟨gs,xv,none⟩ =false:=gf;have hsz2:wr.heap.size+1<Y.drew.heap.size:=World.block_lt_of_cell? _ ⟨wr.heap.size+1,0,none⟩ v0;have HGY:=ai ((HGW.o.trans (only_below (bT HBX2.o HBY.o) (some gs))).trans (only_below (Below.refl _ _).drew (some gs)) :w.grownBy Y.drew (some gs));generalize Y.drew=Y2 at *;have HYS:=ai (HYW2.o.setS hxv (some s) (.pointer (some ⟨k.h.b,pk,none⟩)) ⟨k.h.b,pk,HPK.o.1,HPK.o.2,rfl⟩);have hgsw:gs<w.heap.size:=HM.o.hi.2.1;have hgmw:gm<w.heap.size:=HM.o.hi.1;have hguw:gu<w.heap.size:=HM.o.hi.2.2;have HLVB:=ai (show∀j,lv.ownBlock=some j→j<w.heap.size from fun j e=>by obtain⟨xs,hx⟩:=HM.o.own;exact(hx.lt j e).2)
       have HUL:=ai HYO2.o.lt;have hwr:gs<wr.heap.size∧w.heap.size<wr.heap.size:=⟨HMW.o.hi.2.1,HBX.o.lt⟩;have v3: (Y2.setCell ⟨gs,xv,none⟩ (.pointer (some ⟨k.h.b,pk,none⟩))).cell? ⟨wr.heap.size+1,0,none⟩ =some (.int .i64 (xv:Nat)):=by rw [cell_set_far (by omega)];exact v0
       have HYO3:=ai (HYO2.o.kept (gb_set Y2 gs xv (.pointer (some ⟨k.h.b,pk,none⟩))) (.inr (fun e=>by have:=(HUL.o gs e).1;omega)))
       have HYB3:=ai (HYB2.o.grown (gb_set Y2 gs xv (.pointer (some ⟨k.h.b,pk,none⟩))) (by intro e;injection e with e;omega))
       have HGY3:=ai (HGY.o.trans (gb_set Y2 gs xv (.pointer (some ⟨k.h.b,pk,none⟩))));clear hwr;go_upto_region 10 with fail
       clear v0 g0 gf m7 vb v1 hsz2;generalize hY3:Y2.setCell ⟨gs,xv,none⟩ (.pointer (some ⟨k.h.b,pk,none⟩)) =Y3 at *;go_wp2_with (at_builtin;refine wpList_append_own _ rfl _ _ 22 rfl (w.heap.size+1) 3 i0 (.int .i64 0) 1 8 Tryz.underlying22 HI.o.1 HI.o.2.1 HI.o.2.2.1 HI.o.2.2.2 rfl (by decide) _ _ _ rfl (HYO3.o.alloc _) ⟨Y3.heap.size,0,none⟩ 1 1 [.int .i64 (xv:Nat)] rfl rfl (new_cells (l:= [.int .i64 (xv:Nat)])) (by intro a ha;rw [List.mem_singleton.1 ha];rfl) (by have:=HNL3.o;unfold maxLen;omega) (by have:=HNL3.o;omega) (by have:=HYB3.o.lt;simp;omega) ?_;intro nv2 Y4 hown4 hgr4 _)
       have HO4:=ai (show Y4.ownsRow (w.heap.size+1) 3 1 nv2 (now ++ [xv]).length (nats (now ++ [xv]))from by rw [nats_snoc,List.length_append];exact hown4)
       have HG4:=ai hgr4;clear hown4 hgr4 v3;have HW4:=ai ((HYS.o.call (belA _)).grown HG4.o (fun j e=>by have h1:=(HUL.o j e).1;have h2:=HM.o.bel.size;exact⟨by omega,by omega,by omega,by omega,fun h=>by have:=HLVB.o j h;omega⟩))
       have HB4:=ai ((HYB3.o.below (belA _)).grown HG4.o (fun e=>by have h1:=(HUL.o _ e.symm).1;omega))
       go_roundw
       case rel=>exact⟨m+1,σi.bind xv s,now ++ [xv],nv2,rfl,by omega,by go_num,HO4,HBD,ai (HBK.o.bind hsx2.o),ai (by have:=HNM.o;simp;omega),ai (fun v hv=>by rcases List.mem_append.1 hv with h|h;exact HNV.o v h;rw [List.mem_singleton.1 h];exact hxv),HW4,HB4,ai ((HGY3.o.trans (only_below (belA _) (some gs))).andThen HG4.o (fun j e=>.inl (by have:=(HUL.o j e).1;omega)))⟩
       case measure=>simp [intOf];omega
      ·have hbar:=HBT.o rfl
       have HBAR:=ai hbar;clear hbar;go_wp2_with (go_at_call 126;refine HCN.o.mono ?_;rintro e Y ⟨rfl,hb⟩;have HBY:=ai (bT HQ1.o hb);clear hb m6 m7a vb v1 k0)
       obtain⟨nl,hu,h1,h2,h3,h4,h5,h6⟩:=HRET.o Y HBY.o HBAR.o;subst hu;have HR:=ai (And.intro h1 (And.intro h2 (And.intro h3 (And.intro h4 (And.intro h5 h6)))));clear h1 h2 h3 h4 h5 h6;go_wp2
       go_ret2
       exact⟨σi,now,nl,false,rfl,HR.o.1,HR.o.2.1,HR.o.2.2.1,HBK.o,HNV.o,HR.o.2.2.2.1,HR.o.2.2.2.2.1,HR.o.2.2.2.2.2⟩
 ·have hlti: ¬(m:Int) <l.l.length:=by omega
  have hme:m=l.l.length:=by omega
  obtain⟨nl,hnv,hnl,hnin,hnb⟩:=own_nats HO.o (fun x hx=>by have:=HNV.o x hx;omega)
  subst hnv;have HNL:=ai (And.intro hnl (And.intro hnin hnb));clear hnl hnin hnb;have HBC2:=ai (show Became single σ l.l k.l σi from by have h:=HBC.o;rw [hme,List.take_length,HLEN.o,List.take_length]at h;exact h)
  clear hme;go_wp2
  go_ret2
  exact⟨σi,now,nl,true,rfl,HNL.o.1,HNL.o.2.1,fun hp=>Nat.le_of_succ_le (HNL.o.2.2 hp),HBK.o,HNV.o,HMW.o,HBC2.o,HGW.o⟩
end Go.Proofs.YtiijaaohphokcaaGreatDoor

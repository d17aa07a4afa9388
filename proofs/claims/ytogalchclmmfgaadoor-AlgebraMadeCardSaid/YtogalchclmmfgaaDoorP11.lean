/- A part of the proof of AlgebraMade. -/
import Derived.Test.YtogalchclmmfgaaDoorP10
import Derived.Deep.RegionHeld3
import Derived.Deep.RegionLaw
import Derived.Deep.DeepCutAuto
set_option maxRecDepth 100000
set_option maxHeartbeats 16000000
namespace Go.Proofs.YtogalchclmmfgaaDoor
open Go.RowKit
theorem info_frn: (Tryd.prog.info? 43).map (fun i=>(i.zero,i.size,i.bytes)) =some (some (.agg #[.slice none 0 0,.string ⟨#[]⟩]),2,40):=by kernel_rfl
abbrev tab0 (nm:ByteArray) (c:Nat) :Tab:=⟨nm,⟨some ⟨c,0,none⟩,1⟩,[⟨⟨#[105,100]⟩,1,false⟩],⟨⟨some ⟨c+1,0,none⟩,1⟩,[0]⟩,nilHd,[],nilHd,[],nilHd,[]⟩
theorem tb_start {V x:World} {b a:Nat} {L:IL} {nm:ByteArray} (hg:V.grownBy x (some b)) (ht:TapeIn x b L a) (hll:b<V.heap.size∧(0<L.l.length→L.h.b<V.heap.size)) (hn:nm.size≤100) :
  TB nm V (((x.alloc (.cells #[.string ⟨#[105,100]⟩,.int .i64 1,.bool false] 41)).alloc (.cells #[.int .i64 0] 3)).alloc (.cells #[.string nm,.slice (some ⟨x.heap.size,0,none⟩) 1 1,.slice (some ⟨x.heap.size+1,0,none⟩) 1 1,.slice none 0 0,.slice none 0 0,.slice none 0 0] 39)) b L a x.heap.size (x.heap.size+1+1) (tab0 nm x.heap.size):=by
 have hb:Below x.heap.size x (((x.alloc (.cells #[.string ⟨#[105,100]⟩,.int .i64 1,.bool false] 41)).alloc (.cells #[.int .i64 0] 3)).alloc (.cells #[.string nm,.slice (some ⟨x.heap.size,0,none⟩) 1 1,.slice (some ⟨x.heap.size+1,0,none⟩) 1 1,.slice none 0 0,.slice none 0 0,.slice none 0 0] 39)):=(belAA _ _).alloc (by simp only [World.size_alloc];omega) _
 refine⟨hg.trans (only_below hb _),hg.size,hll,ht.mono hb,?_,?_,by omega,⟨rfl,rfl⟩,rfl,fun c hc=>(by rw [List.mem_singleton.1 hc];decide)⟩
 ·refine⟨?_,World.ownsRow_nil _ _ _ _,World.ownsRow_nil _ _ _ _,World.ownsRow_nil _ _ _ _,hn,fun c hc=> ?_,⟨x.heap.size+1,0,rfl,?_,z64,by omega⟩,fun u hu=>(by cases hu),fun u hu=>(by cases hu),fun u hu=>(by cases hu)⟩
  ·exact((World.ownsRow_lit (base:=x.heap.size) (e:=41) (size:=3) x #[.string ⟨#[105,100]⟩,.int .i64 1,.bool false] 1 (Nat.le_refl _) (by decide) rfl).alloc _).alloc _
  ·rw [List.mem_singleton.1 hc]
   exact⟨by show(2:Nat)≤100;omega,by constructor<;>decide⟩
  ·have:=(Box.new (x.alloc (.cells #[.string ⟨#[105,100]⟩,.int .i64 1,.bool false] 41)) #[.int .i64 0] 3).below (belA (.cells #[.string nm,.slice (some ⟨x.heap.size,0,none⟩) 1 1,.slice (some ⟨x.heap.size+1,0,none⟩) 1 1,.slice none 0 0,.slice none 0 0,.slice none 0 0] 39))
   simp only [World.size_alloc]at this;exact this
 ·have:=Box.new ((x.alloc (.cells #[.string ⟨#[105,100]⟩,.int .i64 1,.bool false] 41)).alloc (.cells #[.int .i64 0] 3)) #[.string nm,.slice (some ⟨x.heap.size,0,none⟩) 1 1,.slice (some ⟨x.heap.size+1,0,none⟩) 1 1,.slice none 0 0,.slice none 0 0,.slice none 0 0] 39
  simp only [World.size_alloc]at this;exact this
structure LA (nm:ByteArray) (V z:World) (b:Nat) (L:IL) (a B cx n:Nat) (t:Tab) :Prop where
 tb:TB nm V z b L a B cx t
 nc:t.cols.length=1+n
 nu:t.uniqs = []∧t.uh=nilHd
 nf:t.fors.length=0
structure LB (nm:ByteArray) (V z:World) (b:Nat) (L:IL) (a B cx k:Nat) (t:Tab) :Prop where
 tb:TB nm V z b L a B cx t
 nc:2≤t.cols.length∧t.cols.length≤4+k
 nu:t.uniqs = []∧t.uh=nilHd
 nf:t.fors.length≤k
structure LC (nm:ByteArray) (V z:World) (b:Nat) (L:IL) (a B cx:Nat) (t:Tab) :Prop where
 tb:TB nm V z b L a B cx t
 nc:2≤t.cols.length∧t.cols.length≤6
 nu:t.uniqs = []→t.uh=nilHd
 nl:t.uniqs.length≤1∧t.fors.length≤2
theorem LA.snoc {nm:ByteArray} {V z z':World} {b a a' B cx n:Nat} {L:IL} {t:Tab} {c:Col} {h:Hd} (l:LA nm V z b L a B cx n t) (ht:TB nm V z' b L a' B cx { t with ch:=h,cols:=t.cols ++ [c] }) :LA nm V z' b L a' B cx (n+1) { t with ch:=h,cols:=t.cols ++ [c] }:=
 ⟨ht,by show(t.cols ++ [c]).length=_;rw [List.length_append,l.nc];rfl,l.nu,l.nf⟩
theorem la_eq {nm:ByteArray} {V z:World} {b a a' B cx n:Nat} {L:IL} {t:Tab} (e:a=a') (l:LA nm V z b L a B cx n t) :LA nm V z b L a' B cx n t:=e▸l
theorem lb_next {nm:ByteArray} {V z:World} {b a B cx k:Nat} {L:IL} {t:Tab} {h:Hd} {c:Frn} (ht:TB nm V z b L a B cx { t with fh:=h,fors:=t.fors ++ [c] }) (nc:3≤t.cols.length∧t.cols.length≤5+k) (nu:t.uniqs = []∧t.uh=nilHd) (nf:t.fors.length≤k) :LB nm V z b L a B cx (k+1) { t with fh:=h,fors:=t.fors ++ [c] }:=
 ⟨ht,⟨by show 2≤t.cols.length;omega,by show t.cols.length≤_;omega⟩,nu,by show(t.fors ++ [c]).length≤k+1;rw [List.length_append];show t.fors.length+1≤k+1;omega⟩
theorem nat_next (L:IL) (a:Nat) {n:Int} (hn:1≤n) : ∃m:Nat,L.next a n=m∧(m:Int) <n:=by
 have h:=L.next_ok a hn;exact⟨(L.next a n).toNat,by omega,by omega⟩
theorem schema_of (HE:Hid (ExprAt 110 21 3)) :SchemaAt:=by
 intro w b a L ht ha;obtain⟨i0,hi,hz0,hz1,hz2⟩:=info_parts info_col;have HI:=ai (And.intro hi (And.intro hz0 (And.intro hz1 hz2)));clear hi hz0 hz1 hz2;have HBW:=ai (belAA (w:=w) (.cells #[.slice none 0 0] 28) (.cells #[.slice none 0 0] 28))
 have B0:=ai ((Box.new w #[.slice none 0 0] 28).below (belA (.cells #[.slice none 0 0] 28)));have B1:=ai (Box.new (w.alloc (.cells #[.slice none 0 0] 28)) #[.slice none 0 0] 28);simp only [World.size_alloc]at B1;have HS0:=ai (show SB w ((w.alloc (.cells #[.slice none 0 0] 28)).alloc (.cells #[.slice none 0 0] 28)) b L a nilHd []from
  ⟨only_below HBW.o _,ht.low,ht.mono HBW.o,B0.o,B1.o,World.ownsRow_nil _ _ _ _,fun t h=>(by cases h),fun t h=>(by cases h),List.Pairwise.nil,fun i h=>absurd h (Nat.not_lt_zero _),fun t h=>(by cases h)⟩)
 clear HBW B0 B1 ht
 go_enter Tryd.func7,Tryd.ntmps7;go_upto_region 2 with(fail)
 generalize ((w.alloc (.cells #[.slice none 0 0] 28)).alloc (.cells #[.slice none 0 0] 28)) =W at *;obtain⟨m,hm,hm3⟩:=nat_next L a (n:=3) (by decide)
 have HM:=ai hm;clear hm;have hwm:IntKind.i64.wrap (1+ (m:Int)) =1+m:=by rw [IntKind.wrap_i64];omega
 go_wp2_with (go_at_call 10;refine(next_any _ b a L 3 HS0.o.tp (by omega) (by decide) ⟨by decide,by decide⟩).mono ?_;rintro e w1 ⟨rfl,ht2,hg2⟩;have HS1:=ai (HS0.o.next hg2 ht2);clear ht2 hg2;rw [HM.o])
 go_loopw [5] (fun i wr=>∃(j:Nat) (h:Hd) (ts:List Tab) (a':Nat),i = .int .i64 j∧j≤1+m∧Hid (ts.length=j)∧a'≤a+1+130*j∧Hid (SB w wr b L a' h ts)) (fun i _=>1+m - (intOf i).toNat)
 case atStart=>exact⟨0,nilHd,[],a+1,rfl,by omega,rfl,by omega,HS1.o⟩
 case round=>
  obtain⟨j,h,ts,a',rfl,hj,HJ,ha',HS⟩:=hrel;clear HS0 HS1;obtain⟨Vr,hVr⟩ : ∃x,x=wr:=⟨_,rfl⟩;subst hVr;by_cases hlt: (j:Int) <1+m
  ·have hj2:j≤2:=by omega
   have hwj:IntKind.i64.wrap ((j:Int) +1) = (j:Int) +1:=by rw [IntKind.wrap_i64];omega
   go_upto_region 7 with(go_at_call 18;refine(small_name _ _ (by show(1:Nat)≤10;omega) (j:Int) ⟨by omega,by omega⟩).mono ?_;rintro e w2 ⟨⟨nm,⟨hnm,hnd⟩,rfl⟩,hb2⟩;have HND:=ai hnd;clear hnd;have HB2:=ai hb2;have HNM:=ai hnm;clear hb2 hnm)
   have HLL:=ai (show b<Vr.heap.size∧(0<L.l.length→L.h.b<Vr.heap.size)from⟨HS.o.tp.low.1,HS.o.tp.low.2⟩)
   have HTB:=ai (tb_start (V:=Vr) (x:=w2) (only_below HB2.o (some b)) (HS.o.tp.mono HB2.o) HLL.o HNM.o)
   generalize (((w2.alloc (.cells #[.string ⟨#[105,100]⟩,.int .i64 1,.bool false] 41)).alloc (.cells #[.int .i64 0] 3)).alloc (.cells #[.string nm,.slice (some ⟨w2.heap.size,0,none⟩) 1 1,.slice (some ⟨w2.heap.size+1,0,none⟩) 1 1,.slice none 0 0,.slice none 0 0,.slice none 0 0] 39)) =V at *;have hcc:=HTB.o.le;have hbc:b<w2.heap.size:=by have:=HLL.o.1;omega
   clear HB2;generalize w2.heap.size=c at *;generalize hcx:c+1+1=cx at *;obtain⟨f,hf,hf3⟩:=nat_next L a' (n:=3) (by decide)
   have HF:=ai hf;clear hf;have hwf:IntKind.i64.wrap (1+ (f:Int)) =1+f:=by rw [IntKind.wrap_i64];omega
   go_wp2_with (go_at_call 10;refine(next_any _ b a' L 3 HTB.o.tp (by omega) (by decide) ⟨by decide,by decide⟩).mono ?_;rintro e v1 ⟨rfl,ht2,hg2⟩;have HTB1:=ai (HTB.o.next hg2 ht2);clear ht2 hg2;rw [HF.o])
   go_loopw [8] (fun k z=>∃(j2:Nat) (t:Tab),k = .int .i64 j2∧j2≤1+f∧Hid (LA nm Vr z b L (a'+1+2*j2) c cx j2 t)) (fun k _=>1+f - (intOf k).toNat)
   case atStart=>exact⟨0,_,rfl,by omega,⟨HTB1.o,rfl,⟨rfl,rfl⟩,rfl⟩⟩
   case round=>
    obtain⟨j2,t,rfl,hj2',HA⟩:=hrel;clear HTB HTB1;by_cases hlt2: (j2:Int) <1+f
    ·generalize hp:a'+1+2*j2=p at *
     obtain⟨q,hq,hq3⟩:=nat_next L p (n:=3) (by decide)
     have hwq:IntKind.i64.wrap (1+L.next p 3) =1+q:=by rw [hq,IntKind.wrap_i64];omega
     clear hq;obtain⟨nb,hnb⟩ : ∃nb:Bool,(L.next (p+1) 2 == 0) =nb:=⟨_,rfl⟩;have hwj2:IntKind.i64.wrap ((j2:Int) +1) = (j2:Int) +1:=by rw [IntKind.wrap_i64];omega
     have k0:wr.cell? ⟨cx,1,none⟩ =some (.slice t.ch.ao t.cols.length t.ch.cap):=HA.o.tb.bx.cell (j:=1) rfl
     go_wp2
     go_region_law
      (first
       | ((refine step_append_lies _ (by rfl) _ _ _ (by rfl) c 41 i0 _ 3 32 Tryd.underlying34 HI.o.1 HI.o.2.1 HI.o.2.2.1 HI.o.2.2.2 rfl (by decide) (.slice t.ch.ao t.cols.length t.ch.cap) t.cols.length (t.cols.flatMap Col.cells) (by rfl) HCA.o.ti.oc ⟨n3.heap.size,0,none⟩ 1 1 [.string nm2,.int .i64 (1+q),.bool nb] (by rfl) (by rfl) new_cells (by intro u hu;simp only [List.mem_cons,List.not_mem_nil,or_false]at hu;rcases hu with rfl|rfl|rfl<;>rfl) (by decide) (by have:=HA.o.nc;unfold maxLen;omega) (by have:=HA.o.nc;omega) (HCA.o.sz) (n3.heap.size+1) (by simp) ?_;intro g cap z hown hgr hat hltz;have hbz:=HCA.o.bx.grown hgr (by rw [Hd.ob_eq];exact fun e=>own_box_ne HCA.o.ti.oc HCA.o.bx (by decide) e.symm);have kz:=hbz.cell (j:=1) rfl;have fz:=hbz.fr 1;have HFF:=ai (HCA.o.col (c:=⟨nm2,1+q,nb⟩) hown hgr ⟨HNM2.o,decide_eq_true (show 1≤1+ (q:Int)∧1+ (q:Int)≤3 by omega)⟩);clear hbz hgr hown hat hltz))
       | (go_simp;go_at_call 18;refine(small_name _ _ (by show(1:Nat)≤10;omega) (j2:Int) ⟨by omega,by omega⟩).mono ?_;rintro e n1 ⟨⟨nm2,⟨hnm2,-⟩,rfl⟩,hb1⟩;have HN1:=ai (HA.o.tb.below (bel_drew hb1));have HNM2:=ai hnm2;have k1:n1.cell? ⟨cx,1,none⟩ =some (.slice t.ch.ao t.cols.length t.ch.cap):=HN1.o.bx.cell (j:=1) rfl;clear hb1 hnm2)
       | (have hh:=HN2.o;go_simp;go_at_call 10;refine(next_any _ b (p+1) L 2 hh.tp (by omega) (by decide) ⟨by decide,by decide⟩).mono ?_;rintro e n3 ⟨rfl,ht2,hg2⟩;have HN3:=ai (hh.next hg2 ht2);clear ht2 hg2 hh;have k3:n3.cell? ⟨cx,1,none⟩ =some (.slice t.ch.ao t.cols.length t.ch.cap):=HN3.o.bx.cell (j:=1) rfl;have HCA:=ai (HN3.o.alloc (.cells #[.string nm2,.int .i64 (1+q),.bool nb] 41));have k4: (n3.alloc (.cells #[.string nm2,.int .i64 (1+q),.bool nb] 41)).cell? ⟨cx,1,none⟩ =some (.slice t.ch.ao t.cols.length t.ch.cap):=HCA.o.bx.cell (j:=1) rfl)
       | (go_simp;go_at_call 10;refine(next_any _ b p L 3 HN1.o.tp (by omega) (by decide) ⟨by decide,by decide⟩).mono ?_;rintro e n2 ⟨rfl,ht2,hg2⟩;have HN2:=ai (HN1.o.next hg2 ht2);clear ht2 hg2;have kk2:n2.cell? ⟨cx,1,none⟩ =some (.slice t.ch.ao t.cols.length t.ch.cap):=HN2.o.bx.cell (j:=1) rfl))
     all_goals
      go_wp2_with fail
      go_roundw
     all_goals first
      | (case rel=>exact⟨j2+1,_,rfl,by omega,la_eq (by omega) (HA.o.snoc HFF.o)⟩)
      | (case measure=>simp [intOf];omega)
      | trace_state
    ·have HB0:=ai (show LB nm Vr wr b L (a'+1+2*j2) c cx 0 t from⟨HA.o.tb,by have:=HA.o.nc;omega,HA.o.nu,by have:=HA.o.nf;omega⟩)
     have hp0:a'+1+2*j2≤a'+7:=by omega
     generalize a'+1+2*j2=p0 at *;clear HA;go_wp2;go_loopw [9] (fun k z=>∃(k2:Nat) (t:Tab) (p:Nat),k = .int .i64 k2∧k2≤2∧p≤a'+7+3*k2∧Hid (LB nm Vr z b L p c cx k2 t)) (fun k _=>2 - (intOf k).toNat)
     case atStart=>exact⟨0,_,_,rfl,by omega,hp0,HB0.o⟩
     case round=>
      clear HB0;obtain⟨k2,t,p,rfl,hk2,hp,HB⟩:=hrel;have hwk2:IntKind.i64.wrap ((k2:Int) +1) = (k2:Int) +1:=by rw [IntKind.wrap_i64];omega
      go_upto_region 13 with fail
      go_cut [56] (fun cv wx=>∃(go:Bool) (p2:Nat),cv = .bool go∧p2≤p+1∧Hid (LB nm Vr wx b L p2 c cx k2 t)∧(go=true→k2<2∧0<j))
      case first=>
       by_cases h1: (k2:Int) <2
       ·by_cases h2: (0:Int) <j
        ·by_cases h3:0<L.next p 3
         ·go_wp2_with (go_at_call 10;refine(next_any _ b p L 3 HB.o.tb.tp (by omega) (by decide) ⟨by decide,by decide⟩).mono ?_;rintro e v2 ⟨rfl,ht2,hg2⟩;have HX:=ai (show LB nm Vr v2 b L (p+1) c cx k2 t from⟨HB.o.tb.next hg2 ht2,HB.o.nc,HB.o.nu,HB.o.nf⟩);clear ht2 hg2)
          go_meet
          exact⟨true,p+1,rfl,by omega,HX.o,fun _=>⟨by omega,by omega⟩⟩
         ·go_wp2_with (go_at_call 10;refine(next_any _ b p L 3 HB.o.tb.tp (by omega) (by decide) ⟨by decide,by decide⟩).mono ?_;rintro e v2 ⟨rfl,ht2,hg2⟩;have HX:=ai (show LB nm Vr v2 b L (p+1) c cx k2 t from⟨HB.o.tb.next hg2 ht2,HB.o.nc,HB.o.nu,HB.o.nf⟩);clear ht2 hg2)
          go_meet
          exact⟨false,p+1,congrArg Value.bool (decide_eq_false (by omega)),by omega,HX.o,fun h=>by cases h⟩
        ·go_wp2_with fail
         go_meet
         exact⟨false,p,rfl,by omega,HB.o,fun h=>by cases h⟩
       ·go_wp2_with fail
        go_meet
        exact⟨false,p,rfl,by omega,HB.o,fun h=>by cases h⟩
      case rest=>
       obtain⟨go,p2,rfl,hp2,HB2,hgo⟩:=hcut;clear HB
       cases go
       case true=>
        obtain⟨hk3,hj0⟩:=hgo rfl;clear hgo;have hp2':p2≤a'+13:=by omega
        obtain⟨nb,hnb⟩ : ∃nb:Bool,(L.next p2 4 == 0) =nb:=⟨_,rfl⟩;have k0:wc.cell? ⟨cx,1,none⟩ =some (.slice t.ch.ao t.cols.length t.ch.cap):=HB2.o.tb.bx.cell (j:=1) rfl
        go_upto_region 15 with fail
        go_cut [] (fun wx=>∃t:Tab,Hid (TB nm Vr wx b L (p2+1) c cx t)∧Hid (3≤t.cols.length∧t.cols.length≤5+k2)∧Hid (t.uniqs = []∧t.uh=nilHd)∧Hid (t.fors.length≤k2))
        case first=>
         go_region_law
          (first
           | (refine step_append_lies _ (by rfl) _ _ _ (by rfl) c 41 i0 _ 3 32 Tryd.underlying34 HI.o.1 HI.o.2.1 HI.o.2.2.1 HI.o.2.2.2 rfl (by decide) (.slice t.ch.ao t.cols.length t.ch.cap) t.cols.length (t.cols.flatMap Col.cells) (by rfl) HCA.o.ti.oc ⟨n3.heap.size,0,none⟩ 1 1 [.string nm2,.int .i64 1,.bool nb] (by rfl) (by rfl) new_cells (by intro u hu;simp only [List.mem_cons,List.not_mem_nil,or_false]at hu;rcases hu with rfl|rfl|rfl<;>rfl) (by decide) (by have:=HB2.o.nc;unfold maxLen;omega) (by have:=HB2.o.nc;omega) (HCA.o.sz) (n3.heap.size+1) (by simp) ?_;intro g cap z hown hgr hat hltz;have hbz:=HCA.o.bx.grown hgr (by rw [Hd.ob_eq];exact fun e=>own_box_ne HCA.o.ti.oc HCA.o.bx (by decide) e.symm);have kz:=hbz.cell (j:=1) rfl;have fz:=hbz.fr 1;have HFF:=ai (HCA.o.col (c:=⟨nm2,1,nb⟩) hown hgr ⟨HNM2.o,(show isT 1=true by decide)⟩);clear hbz hgr hown hat hltz)
           | (go_simp;go_at_call 18;refine(small_name _ _ (by show(1:Nat)≤10;omega) (k2:Int) ⟨by omega,by omega⟩).mono ?_;rintro e n1 ⟨⟨nm2,⟨hnm2,-⟩,rfl⟩,hb1⟩;have HN1:=ai (HB2.o.tb.below (bel_drew hb1));have HNM2:=ai hnm2;have k1:n1.cell? ⟨cx,1,none⟩ =some (.slice t.ch.ao t.cols.length t.ch.cap):=HN1.o.bx.cell (j:=1) rfl;clear hb1 hnm2)
           | (have hh:=HN1.o;go_simp;go_at_call 10;refine(next_any _ b p2 L 4 hh.tp (by omega) (by decide) ⟨by decide,by decide⟩).mono ?_;rintro e n3 ⟨rfl,ht2,hg2⟩;have HN3:=ai (hh.next hg2 ht2);clear ht2 hg2 hh;have k3:n3.cell? ⟨cx,1,none⟩ =some (.slice t.ch.ao t.cols.length t.ch.cap):=HN3.o.bx.cell (j:=1) rfl;have HCA:=ai (HN3.o.alloc (.cells #[.string nm2,.int .i64 1,.bool nb] 41));have k4: (n3.alloc (.cells #[.string nm2,.int .i64 1,.bool nb] 41)).cell? ⟨cx,1,none⟩ =some (.slice t.ch.ao t.cols.length t.ch.cap):=HCA.o.bx.cell (j:=1) rfl))
         all_goals
          go_wp2_with fail
          go_meet
          refine⟨_,HFF.o,?_,HB2.o.nu,HB2.o.nf⟩
          have:=HB2.o.nc;have e: (t.cols ++ [(⟨nm2,1,nb⟩ :Col)]).length=t.cols.length+1:=by simp
          exact⟨by show 3≤(t.cols ++ [_]).length;rw [e];omega,by show(t.cols ++ [_]).length≤5+k2;rw [e];omega⟩
        case rest=>
         clear HB2 k0;obtain⟨t,HB3,HNC,HNU,HNF⟩:=hcut;have hcl:3≤t.cols.length∧t.cols.length≤10:=by have:=HNC.o;omega
         have hwc:IntKind.i64.wrap ((t.cols.length:Int) - 1) = (t.cols.length:Int) - 1:=by rw [IntKind.wrap_i64];omega
         have hcl64:int64 ((t.cols.length:Int) - 1):=⟨by omega,by omega⟩
         have HCL:=ai hcl;have HCL64:=ai hcl64;clear hcl hcl64;have hq0:=L.next_ok (p2+1) (n:=(j:Int)) (by omega)
         have hq2:L.next (p2+1) (j:Int)≤2:=by omega
         obtain⟨j0,hi,hz0,hz1,hz2⟩:=info_parts info_frn;have HQ:=ai (And.intro hi (And.intro hz0 (And.intro hz1 hz2)));clear hi hz0 hz1 hz2;have k0:wc.cell? ⟨cx,1,none⟩ =some (.slice t.ch.ao t.cols.length t.ch.cap):=HB3.o.bx.cell (j:=1) rfl
         have l0:wc.cell? ⟨cx,4,none⟩ =some (.slice t.fh.ao t.fors.length t.fh.cap):=HB3.o.bx.cell (j:=4) rfl
         have HD0:=ai (HB3.o.below (bel_self _));have HDA:=ai (HD0.o.alloc (.cells #[.int .i64 ((t.cols.length:Int) - 1)] 3));have la: (wc.drew.alloc (.cells #[.int .i64 ((t.cols.length:Int) - 1)] 3)).cell? ⟨cx,4,none⟩ =some (.slice t.fh.ao t.fors.length t.fh.cap):=HDA.o.bx.cell (j:=4) rfl
         have la': (wc.alloc (.cells #[.int .i64 ((t.cols.length:Int) - 1)] 3)).cell? ⟨cx,4,none⟩ =some (.slice t.fh.ao t.fors.length t.fh.cap):=(HB3.o.alloc (.cells #[.int .i64 ((t.cols.length:Int) - 1)] 3)).bx.cell (j:=4) rfl
         go_upto_region 16 with fail
         go_region_law
          (first
           | (refine step_append_lies _ (by rfl) _ _ _ (by rfl) c 43 j0 _ 2 40 Tryd.underlying36 HQ.o.1 HQ.o.2.1 HQ.o.2.2.1 HQ.o.2.2.2 rfl (by decide) (.slice t.fh.ao t.fors.length t.fh.cap) t.fors.length (t.fors.flatMap Frn.cells) (by rfl) HC3.o.ti.of ⟨n2.heap.size+1,0,none⟩ 1 1 [.slice (some ⟨n2.heap.size,0,none⟩) 1 1,.string nm3] (by rfl) (by rfl) new_cells1 (by intro u hu;simp only [List.mem_cons,List.not_mem_nil,or_false]at hu;rcases hu with rfl|rfl<;>rfl) (by decide) (by have:=HNF.o;unfold maxLen;omega) (by have:=HNF.o;omega) (HC3.o.sz) (n2.heap.size+1+1) (by simp) ?_;intro g cap z hown hgr hat hltz;have hbz:=HC3.o.bx.grown hgr (by rw [Hd.ob_eq];exact fun e=>own_box_ne HC3.o.ti.of HC3.o.bx (by decide) e.symm);have kz:=hbz.cell (j:=4) rfl;have fz:=hbz.fr 4;have HFF:=ai (HC3.o.frn (c:=⟨⟨⟨some ⟨n2.heap.size,0,none⟩,1⟩,[(t.cols.length:Int) - 1]⟩,nm3⟩) hown hgr ⟨((One.new n2 HN2.o.sz HCL64.o).below (belA _)),HNM3.o⟩);clear hbz hgr hown hat hltz)
           | (refine step_append_lies _ (by rfl) _ _ _ (by rfl) c 43 j0 _ 2 40 Tryd.underlying36 HQ.o.1 HQ.o.2.1 HQ.o.2.2.1 HQ.o.2.2.2 rfl (by decide) (.slice t.fh.ao t.fors.length t.fh.cap) t.fors.length (t.fors.flatMap Frn.cells) (by rfl) HC2.o.ti.of ⟨n2.heap.size,0,none⟩ 1 1 [.slice (some ⟨n1.heap.size,0,none⟩) 1 1,.string nm3] (by rfl) (by rfl) new_cells (by intro u hu;simp only [List.mem_cons,List.not_mem_nil,or_false]at hu;rcases hu with rfl|rfl<;>rfl) (by decide) (by have:=HNF.o;unfold maxLen;omega) (by have:=HNF.o;omega) (HC2.o.sz) (n2.heap.size+1) (by simp) ?_;intro g cap z hown hgr hat hltz;have hbz:=HC2.o.bx.grown hgr (by rw [Hd.ob_eq];exact fun e=>own_box_ne HC2.o.ti.of HC2.o.bx (by decide) e.symm);have kz:=hbz.cell (j:=4) rfl;have fz:=hbz.fr 4;have HFF:=ai (HC2.o.frn (c:=⟨⟨⟨some ⟨n1.heap.size,0,none⟩,1⟩,[(t.cols.length:Int) - 1]⟩,nm3⟩) hown hgr ⟨(((One.new n1 HN1.o.sz HCL64.o).below HB1.o).below (belA _)),HNM3.o⟩);clear hbz hgr hown hat hltz)
           | (refine step_append_lies _ (by rfl) _ _ _ (by rfl) c 43 j0 _ 2 40 Tryd.underlying36 HQ.o.1 HQ.o.2.1 HQ.o.2.2.1 HQ.o.2.2.2 rfl (by decide) (.slice t.fh.ao t.fors.length t.fh.cap) t.fors.length (t.fors.flatMap Frn.cells) (by rfl) HC1.o.ti.of ⟨n2.heap.size,0,none⟩ 1 1 [.slice (some ⟨wc.heap.size,0,none⟩) 1 1,.string nm3] (by rfl) (by rfl) new_cells (by intro u hu;simp only [List.mem_cons,List.not_mem_nil,or_false]at hu;rcases hu with rfl|rfl<;>rfl) (by decide) (by have:=HNF.o;unfold maxLen;omega) (by have:=HNF.o;omega) (HC1.o.sz) (n2.heap.size+1) (by simp) ?_;intro g cap z hown hgr hat hltz;have hbz:=HC1.o.bx.grown hgr (by rw [Hd.ob_eq];exact fun e=>own_box_ne HC1.o.ti.of HC1.o.bx (by decide) e.symm);have kz:=hbz.cell (j:=4) rfl;have fz:=hbz.fr 4;have HFF:=ai (HC1.o.frn (c:=⟨⟨⟨some ⟨wc.heap.size,0,none⟩,1⟩,[(t.cols.length:Int) - 1]⟩,nm3⟩) hown hgr ⟨((((One.new wc.drew HD0.o.sz HCL64.o).keepB HG1.o (by omega)).below HB1.o).below (belA _)),HNM3.o⟩);clear hbz hgr hown hat hltz)
           | (go_simp;go_at_call 10;refine(next_any _ b (p2+1) L (j:Int) (by first|exact HD0.o.tp|exact HDA.o.tp) (by omega) (by omega) ⟨by omega,by omega⟩).mono ?_;rintro e n1 ⟨rfl,ht2,hg2⟩;have HG1:=ai hg2;have HN1:=ai (show TB nm Vr n1 b L (p2+1+1) c cx t from(by first|exact HD0.o.next hg2 ht2|exact HDA.o.next hg2 ht2));have kk1:n1.cell? ⟨cx,1,none⟩ =some (.slice t.ch.ao t.cols.length t.ch.cap):=HN1.o.bx.cell (j:=1) rfl;have l1:n1.cell? ⟨cx,4,none⟩ =some (.slice t.fh.ao t.fors.length t.fh.cap):=HN1.o.bx.cell (j:=4) rfl;have HN1A:=ai (HN1.o.alloc (.cells #[.int .i64 ((t.cols.length:Int) - 1)] 3));have l1a: (n1.alloc (.cells #[.int .i64 ((t.cols.length:Int) - 1)] 3)).cell? ⟨cx,4,none⟩ =some (.slice t.fh.ao t.fors.length t.fh.cap):=HN1A.o.bx.cell (j:=4) rfl;clear ht2 hg2)
           | (go_simp;go_at_call 18;refine(small_name _ _ (by show(1:Nat)≤10;omega) (L.next (p2+1) (j:Int)) ⟨hq0.1,hq2⟩).mono ?_;rintro e n2 ⟨⟨nm3,⟨hnm3,-⟩,rfl⟩,hb1⟩;have HB1:=ai hb1;have HN2:=ai (show TB nm Vr n2 b L (p2+1+1) c cx t from(by first|exact HN1.o.below hb1|exact HN1A.o.below hb1));have HNM3:=ai hnm3;have kk2:n2.cell? ⟨cx,1,none⟩ =some (.slice t.ch.ao t.cols.length t.ch.cap):=HN2.o.bx.cell (j:=1) rfl;have l2:n2.cell? ⟨cx,4,none⟩ =some (.slice t.fh.ao t.fors.length t.fh.cap):=HN2.o.bx.cell (j:=4) rfl;have HN2A:=ai (HN2.o.alloc (.cells #[.int .i64 ((t.cols.length:Int) - 1)] 3));have l2a: (n2.alloc (.cells #[.int .i64 ((t.cols.length:Int) - 1)] 3)).cell? ⟨cx,4,none⟩ =some (.slice t.fh.ao t.fors.length t.fh.cap):=HN2A.o.bx.cell (j:=4) rfl;have HC1:=ai (HN2.o.alloc (.cells #[.slice (some ⟨wc.drew.heap.size,0,none⟩) 1 1,.string nm3] 43));have HC2:=ai (HN2.o.alloc (.cells #[.slice (some ⟨n1.heap.size,0,none⟩) 1 1,.string nm3] 43));have HC3:=ai (HN2A.o.alloc (.cells #[.slice (some ⟨n2.heap.size,0,none⟩) 1 1,.string nm3] 43));have m1: (n2.alloc (.cells #[.slice (some ⟨wc.heap.size,0,none⟩) 1 1,.string nm3] 43)).cell? ⟨cx,4,none⟩ =some (.slice t.fh.ao t.fors.length t.fh.cap):=HC1.o.bx.cell (j:=4) rfl;have m2: (n2.alloc (.cells #[.slice (some ⟨n1.heap.size,0,none⟩) 1 1,.string nm3] 43)).cell? ⟨cx,4,none⟩ =some (.slice t.fh.ao t.fors.length t.fh.cap):=HC2.o.bx.cell (j:=4) rfl;have m3: ((n2.alloc (.cells #[.int .i64 ((t.cols.length:Int) - 1)] 3)).alloc (.cells #[.slice (some ⟨n2.heap.size,0,none⟩) 1 1,.string nm3] 43)).cell? ⟨cx,4,none⟩ =some (.slice t.fh.ao t.fors.length t.fh.cap):=HC3.o.bx.cell (j:=4) rfl;clear hb1 hnm3))
         all_goals
          go_wp2_with fail
          go_roundw
         all_goals first
          | (case rel=>exact⟨k2+1,_,p2+1+1,rfl,by omega,by omega,lb_next HFF.o HNC.o HNU.o HNF.o⟩)
          | (case measure=>simp [intOf];omega)
          | trace_state
       case false=>
        have hp2':p2≤a'+14:=by omega
        clear hgo hp hp2 hwk2
        go_upto_if 87 with(go_at_call 10;refine(next_any _ b p2 L 4 HB2.o.tb.tp (by omega) (by first|decide|omega) (by first|exact⟨by decide,by decide⟩ |exact⟨by omega,by omega⟩)).mono ?_;rintro e v2 ⟨rfl,ht2,hg2⟩;have HX:=ai (show LB nm Vr v2 b L (p2+1) c cx k2 t from⟨HB2.o.tb.next hg2 ht2,HB2.o.nc,HB2.o.nu,HB2.o.nf⟩);clear ht2 hg2)
        clear HB2;go_cut [] (fun wx=>∃(t:Tab) (p3:Nat),p3≤p2+2∧Hid (LC nm Vr wx b L p3 c cx t))
        case first=>
         by_cases h4:L.next p2 4=0
         ·have hb4: (L.next p2 4 == 0) =true:=by rw [h4];rfl
          obtain⟨j0,hi,hz0,hz1,hz2⟩:=info_parts info_il;have HQ:=ai (And.intro hi (And.intro hz0 (And.intro hz1 hz2)));clear hi hz0 hz1 hz2;obtain⟨q,hq,hq3⟩:=nat_next L (p2+1) (n:=1+ (f:Int)) (by omega)
          have hwq:IntKind.i64.wrap (1+L.next (p2+1) (1+f)) =1+q:=by rw [hq,IntKind.wrap_i64];omega
          clear hq;have x0:v2.cell? ⟨cx,3,none⟩ =some (.slice t.uh.ao t.uniqs.length t.uh.cap):=HX.o.tb.bx.cell (j:=3) rfl
          go_upto_region 18 with fail
          go_region_law
           (first
            | (refine step_append_lies _ (by rfl) _ _ _ (by rfl) c 22 j0 _ 1 24 Tryd.underlying35 HQ.o.1 HQ.o.2.1 HQ.o.2.2.1 HQ.o.2.2.2 rfl (by decide) (.slice t.uh.ao t.uniqs.length t.uh.cap) t.uniqs.length (t.uniqs.flatMap IL.cells) (by rfl) HNB.o.ti.ou ⟨n1.heap.size+1,0,none⟩ 1 1 [.slice (some ⟨n1.heap.size,0,none⟩) 1 1] (by rfl) (by rfl) new_cells1 (by intro u hu;simp only [List.mem_cons,List.not_mem_nil,or_false]at hu;rcases hu with rfl;rfl) (by decide) (by rw [HX.o.nu.1];decide) (by rw [HX.o.nu.1];decide) (HNB.o.sz) (n1.heap.size+1+1) (by simp) ?_;intro g cap z hown hgr hat hltz;have hbz:=HNB.o.bx.grown hgr (by rw [Hd.ob_eq];exact fun e=>own_box_ne HNB.o.ti.ou HNB.o.bx (by decide) e.symm);have kz:=hbz.cell (j:=3) rfl;have fz:=hbz.fr 3;have HFF:=ai (HNB.o.unq (c:=⟨⟨some ⟨n1.heap.size,0,none⟩,1⟩,[1+ (q:Int)]⟩) hown hgr ((One.new n1 HN.o.sz ⟨by omega,by omega⟩).below (belA _)));clear hbz hgr hown hat hltz)
            | (go_simp;go_at_call 10;refine(next_any _ b (p2+1) L (1+ (f:Int)) (HX.o.tb.below (bel_self _)).tp (by omega) (by omega) ⟨by omega,by omega⟩).mono ?_;rintro e n1 ⟨rfl,ht2,hg2⟩;have HN:=ai ((HX.o.tb.below (bel_self _)).next hg2 ht2);have l1:n1.cell? ⟨cx,3,none⟩ =some (.slice t.uh.ao t.uniqs.length t.uh.cap):=HN.o.bx.cell (j:=3) rfl;have hna:=HN.o.alloc (.cells #[.int .i64 (1+q)] 3);have l2: (n1.alloc (.cells #[.int .i64 (1+q)] 3)).cell? ⟨cx,3,none⟩ =some (.slice t.uh.ao t.uniqs.length t.uh.cap):=hna.bx.cell (j:=3) rfl;have HNB:=ai (hna.alloc (.cells #[.slice (some ⟨n1.heap.size,0,none⟩) 1 1] 22));have l3: ((n1.alloc (.cells #[.int .i64 (1+q)] 3)).alloc (.cells #[.slice (some ⟨n1.heap.size,0,none⟩) 1 1] 22)).cell? ⟨cx,3,none⟩ =some (.slice t.uh.ao t.uniqs.length t.uh.cap):=HNB.o.bx.cell (j:=3) rfl;clear ht2 hg2 hna))
          all_goals
           go_wp2_with fail
           go_meet
           exact⟨_,_,Nat.le_refl _,⟨HFF.o,⟨HX.o.nc.1,by have:=HX.o.nc;show t.cols.length≤6;omega⟩,fun h=>by simp at h,by show(t.uniqs ++ [_]).length≤1;rw [HX.o.nu.1];show(1:Nat)≤1;omega,by have:=HX.o.nf;show t.fors.length≤2;omega⟩⟩
         ·have hb4: (L.next p2 4 == 0) =false:=beq_eq_false_iff_ne.2 h4
          go_wp2_with fail
          go_meet
          exact⟨t,p2+1,by omega,⟨HX.o.tb,⟨HX.o.nc.1,by have:=HX.o.nc;omega⟩,fun _=>HX.o.nu.2,by rw [HX.o.nu.1];decide,by have:=HX.o.nf;omega⟩⟩
        case rest=>
         clear HX;obtain⟨t,p3,hp3,HC⟩:=hcut
         go_upto_if 100 with(go_at_call 10;refine(next_any _ b p3 L 4 HC.o.tb.tp (by omega) (by first|decide|omega) (by first|exact⟨by decide,by decide⟩ |exact⟨by omega,by omega⟩)).mono ?_;rintro e v2 ⟨rfl,ht2,hg2⟩;have HX:=ai (show LC nm Vr v2 b L (p3+1) c cx t from⟨HC.o.tb.next hg2 ht2,HC.o.nc,HC.o.nu,HC.o.nl⟩);clear ht2 hg2)
         clear HC;go_cut [] (fun wx=>∃(t:Tab) (p4:Nat),p4≤p3+111∧Hid (TD nm Vr wx b L p4 c cx t))
         case first=>
          by_cases h5:L.next p3 4=0
          ·have hb5: (L.next p3 4 == 0) =true:=by rw [h5];rfl
           obtain⟨j0,hi,hz0,hz1,hz2⟩:=info_parts info_exp;have HQ:=ai (And.intro hi (And.intro hz0 (And.intro hz1 hz2)));clear hi hz0 hz1 hz2;have x0:=HX.o.tb.bx.cell (j:=0) rfl
           have x1:=HX.o.tb.bx.cell (j:=1) rfl
           have x2:=HX.o.tb.bx.cell (j:=2) rfl
           have x3:=HX.o.tb.bx.cell (j:=3) rfl
           have x4:=HX.o.tb.bx.cell (j:=4) rfl
           have x5:v2.cell? ⟨cx,5,none⟩ =some (.slice t.kh.ao t.checks.length t.kh.cap):=HX.o.tb.bx.cell (j:=5) rfl
           go_upto_region 20 with fail
           go_region_law
            (first
             | (refine step_append_lies _ (by rfl) _ _ _ (by rfl) c 45 j0 _ 6 72 Tryd.underlying37 HQ.o.1 HQ.o.2.1 HQ.o.2.2.1 HQ.o.2.2.2 rfl (by decide) (.slice t.kh.ao t.checks.length t.kh.cap) t.checks.length (t.checks.flatMap Ex.cells) (by rfl) HNB.o.ti.ok ⟨n2.heap.size,0,none⟩ 1 1 [.int .i64 ex.op,.int .i64 ex.typ,.int .i64 ex.num,.string ex.text,.int .i64 ex.col,.slice ex.kh.ao ex.kids.length ex.kh.cap] (by rfl) (by rfl) new_cells (by intro u hu;simp only [List.mem_cons,List.not_mem_nil,or_false]at hu;rcases hu with rfl|rfl|rfl|rfl|rfl|rfl<;>rfl) (by decide) (by rw [HX.o.tb.nk.1];decide) (by rw [HX.o.tb.nk.1];decide) (HNB.o.sz) (n2.heap.size+1) (by simp) ?_;intro g cap z hown hgr hat hltz;have hbz:=HNB.o.bx.grown hgr (by rw [Hd.ob_eq];exact fun e=>own_box_ne HNB.o.ti.ok HNB.o.bx (by decide) e.symm);have kz:=hbz.cell (j:=5) rfl;have fz:=hbz.fr 5;have HFF:=ai (HN.o.chk HG2.o HT2.o ⟨HXI.o,HXF.o,hxs⟩ hown hgr ((hat.resolve_left (by rw [Hd.ob_eq,HX.o.tb.nk.2];simp [Hd.ob,nilHd])).trans (World.size_alloc _ _).symm) HX.o.nu ⟨by have:=HX.o.nc;omega,by have:=HX.o.nc;omega⟩ ⟨by have:=HX.o.nl;omega,by have:=HX.o.nl;omega⟩);clear hbz hgr hown hat hltz)
             | (go_simp;go_at_call 20;refine(rtypes_new t _ (HX.o.tb.ti.inn.mono (bel_self _)) (by have:=HX.o.nc;omega)).mono ?_;rintro e n1 ⟨⟨r,rfl,hrl,hri,hrb⟩,hb1⟩;have HN:=ai (HX.o.tb.below (bel_drew hb1));have HRL:=ai hrl;have HRI:=ai hri;have hrb2:0<r.l.length→v2.heap.size≤r.h.b:=hrb;have HRB:=ai hrb2;have k1:n1.cell? ⟨cx,5,none⟩ =some (.slice t.kh.ao t.checks.length t.kh.cap):=HN.o.bx.cell (j:=5) rfl;clear hb1 hrl hri hrb hrb2)
             | (go_simp;go_at_call 19;refine(HE.o _ b (p3+1) L r 2 rfl HN.o.tp (by omega) HRI.o (by rw [HRL.o,List.length_map];have:=HX.o.nc;omega) (fun hp=>by have h1:=HRB.o hp;have h2:=HX.o.tb.tp.lt;omega)).mono ?_;rintro e n2 ⟨⟨ex,rfl,hxi,hxf,hxs,-⟩,⟨p4,hp4,hp4',ht2⟩,hg2⟩;have HXI:=ai hxi;have HXF:=ai hxf;have HT2:=ai ht2;have HG2:=ai hg2;have hn2:=HN.o.next hg2 ht2;have k2:n2.cell? ⟨cx,5,none⟩ =some (.slice t.kh.ao t.checks.length t.kh.cap):=hn2.bx.cell (j:=5) rfl;have HNB:=ai (hn2.alloc (.cells #[.int .i64 ex.op,.int .i64 ex.typ,.int .i64 ex.num,.string ex.text,.int .i64 ex.col,.slice ex.kh.ao ex.kids.length ex.kh.cap] 45));have k3: (n2.alloc (.cells #[.int .i64 ex.op,.int .i64 ex.typ,.int .i64 ex.num,.string ex.text,.int .i64 ex.col,.slice ex.kh.ao ex.kids.length ex.kh.cap] 45)).cell? ⟨cx,5,none⟩ =some (.slice t.kh.ao t.checks.length t.kh.cap):=HNB.o.bx.cell (j:=5) rfl;clear hxi hxf ht2 hg2 hn2))
           all_goals
            go_wp2_with fail
            go_meet
            exact⟨_,p4,by omega,HFF.o⟩
          ·have hb5: (L.next p3 4 == 0) =false:=beq_eq_false_iff_ne.2 h5
           go_wp2_with fail
           go_meet
           exact⟨t,p3+1,by omega,HX.o.tb.done HX.o.nu ⟨by have:=HX.o.nc;omega,by have:=HX.o.nc;omega⟩ ⟨by have:=HX.o.nl;omega,by have:=HX.o.nl;omega⟩⟩
         case rest=>
          clear HX;obtain⟨t,p4,hp4,HD⟩:=hcut;obtain⟨j0,hi,hz0,hz1,hz2⟩:=info_parts info_tab;have HQ:=ai (And.intro hi (And.intro hz0 (And.intro hz1 hz2)));clear hi hz0 hz1 hz2;have HS1:=ai (HS.o.next HD.o.gb HD.o.tp);have HS2:=ai (HS1.o.next (only_below (belA (.cells #[.string t.name,.slice t.ch.ao t.cols.length t.ch.cap,.slice t.prim.h.ao t.prim.l.length t.prim.h.cap,.slice t.uh.ao t.uniqs.length t.uh.cap,.slice t.fh.ao t.fors.length t.fh.cap,.slice t.kh.ao t.checks.length t.kh.cap] 39)) _) (HD.o.tp.mono (belA _)));have y0:=HS1.o.b1.cell (j:=0) rfl
          have x0:=HD.o.bx.cell (j:=0) rfl
          have x1:=HD.o.bx.cell (j:=1) rfl
          have x2:=HD.o.bx.cell (j:=2) rfl
          have x3:=HD.o.bx.cell (j:=3) rfl
          have x4:=HD.o.bx.cell (j:=4) rfl
          have x5:=HD.o.bx.cell (j:=5) rfl
          have htl:ts.length≤2:=by have:=HJ.o;omega
          have hsz:w.heap.size+2≤wc.heap.size:=by have:=HS1.o.b1.lt;omega
          go_wp2_with (at_builtin;go_loud (refine wpList_append_lies _ rfl _ _ 26 rfl (w.heap.size+2) 39 j0 _ 6 136 Tryd.underlying26 HQ.o.1 HQ.o.2.1 HQ.o.2.2.1 HQ.o.2.2.2 rfl (by decide) (.slice h.ao ts.length h.cap) ts.length (ts.flatMap Tab.cells) (by rfl) HS2.o.own ⟨wc.heap.size,0,none⟩ 1 1 [.string t.name,.slice t.ch.ao t.cols.length t.ch.cap,.slice t.prim.h.ao t.prim.l.length t.prim.h.cap,.slice t.uh.ao t.uniqs.length t.uh.cap,.slice t.fh.ao t.fors.length t.fh.cap,.slice t.kh.ao t.checks.length t.kh.cap] (by rfl) (by rfl) new_cells (by intro u hu;simp only [List.mem_cons,List.not_mem_nil,or_false]at hu;rcases hu with rfl|rfl|rfl|rfl|rfl|rfl<;>rfl) (by decide) (by unfold maxLen;omega) (by omega) (by simp;omega) (wc.heap.size+1) (by simp) ?_;intro g cap z hown hgr hat hltz;have hbz:=HS2.o.b1.grown hgr (by rw [Hd.ob_eq];exact fun e=>own_box_ne HS2.o.own HS2.o.b1 (by decide) e.symm);have kz:=hbz.cell (j:=0) rfl;have fz:=hbz.fr 0;have HSN:=ai (HS.o.snoc HD.o hown hgr (by rw [World.size_alloc];exact hat) (HND.o.trans (by rw [tnm,HJ.o])));clear hbz hgr hown hat hltz))
          go_roundw
          case rel=>
           refine⟨j+1,_,_,p4,rfl,by omega,(by show(ts ++ [t]).length=j+1;rw [List.length_append,HJ.o];rfl),by omega,HSN.o⟩
          case measure=>simp [intOf];omega
  ·have hjm:1≤j∧j≤3:=by omega
   have y0:=HS.o.b1.cell (j:=0) rfl
   have f0:=HS.o.b0.fr 0;have z0:=HS.o.b0.cell (j:=0) rfl
   have hq:=(HS.o.b0.set 0 (.slice h.ao ts.length h.cap)).cell (j:=0) rfl
   go_wp2_with fail
   exact bodyPost_ret (v:=.agg #[.slice h.ao ts.length h.cap]) (by simp [results,Tryd.results7,go_sem,hq]) rfl
    ⟨h,ts,rfl,by have:=HJ.o;omega,by have:=HJ.o;omega,a',by omega,HS.o.o _⟩
end Go.Proofs.YtogalchclmmfgaaDoor

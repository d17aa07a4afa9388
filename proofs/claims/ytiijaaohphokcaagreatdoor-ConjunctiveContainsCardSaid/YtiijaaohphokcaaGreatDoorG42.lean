/- A region that draws its order: operations in any order; the world's state G may hang on what has been done; then some that stand one behind another and may do anything. -/
import Derived.Test.YtiijaaohphokcaaGreatDoorG09
import Derived.Test.YtiijaaohphokcaaGreatDoorG37
set_option maxRecDepth 100000
set_option maxHeartbeats 16000000
namespace Go
open Go.RowKit
section
variable {P:Program} {ops:Array Oper} {Q:Exit→Act→World→Prop}
theorem wp_region_tailL {id:Nat} {a:Act} {w:World} (hm:P.follows .mixedOrders=true) (hok:regionOk2 ops=true) (n:Nat) (hn:n<ops.size) (hall:lastOk ops n=true) (hch:chainOk ops n=true) (mk: (Nat→Value)→Act) (s0:Nat→Value) (ha:a=mk s0)
  (R:World→World→Prop) (G: (Nat→Bool)→World→Prop) (hG0:G (fun _=>false) w.drew)
  (Φ:Nat→Value→World→Prop) (hmono: ∀i v x y,Φ i v x→R x y→Φ i v y) (sl:Nat→Nat) (hinj: ∀i j,i<n→j<n→sl i=sl j→i=j)
  (hstep: ∀(i:Nat) (o:Oper) (s:Nat→Value) (x:World),i<n→ops[i]? = some o→(∀e∈o.after.toList,Region.binds .any e=true→Φ e.on (s (sl e.on)) x)→∀L,G L x→L i=false→(∀e∈o.after.toList,Region.binds .any e=true→L e.on=true)→
   o.wp P (mk s) x (fun a' y=>∃v,a'=mk (fun k=>if k=sl i then v else s k)∧R x y∧G (upd L i) y∧Φ i v y) Q)
  (hlast: ∀(s:Nat→Value) (x:World),(∀i,i<n→Φ i (s (sl i)) x)→∀L,(∀i,i<n→L i=true)→G L x→tailWp P Q (ops.toList.drop n) (mk s) x) : (Code.region id ops true).wp P Q a w:=by
 have hchain: ∀j,n≤j→j+1<ops.size→onOk ops j (j+1) =true:=by
  intro j hj hs;have h:=List.all_eq_true.1 hch (j - n) (List.mem_range.2 (by omega))
  rw [show n+ (j - n) =j by omega]at h
  exact h
 refine wp_region_inv2 hm (fun _ _ ho=>(regionOk2_at hok ho).1) (fun _ _ ho=>(regionOk2_at hok ho).2) (fun L a x=>(∀(i:Nat) (o:Oper),ops[i]? = some o→L i=true→∀e∈o.after.toList,Region.binds .any e=true→L e.on=true)∧(L n=false→∃s,a=mk s∧G L x∧∀i,i<n→L i=true→Φ i (s (sl i)) x)∧
  (∀m,n≤m→m<ops.size→L m=true→(m+1<ops.size→L (m+1) =false)→tailWp P Q (ops.toList.drop (m+1)) a x)) ⟨fun _ _ _ h=>(by cases h),fun _=>⟨s0,ha,hG0,fun i _ h=>(by cases h)⟩,fun _ _ _ h=>(by cases h)⟩ ?_ ?_
 ·rintro i o L a x ho hL he ⟨hC,hI,hD⟩
  have hi:=(Array.getElem?_eq_some_iff.1 ho).1;have hC2: ∀(j:Nat) (o2:Oper),ops[j]? = some o2→upd L i j=true→∀e∈o2.after.toList,Region.binds .any e=true→upd L i e.on=true:=by
   intro j o2 ho2 hj e h1 h2;have hold:L e.on=true:=by
    by_cases hji:j=i
    ·subst hji;rw [ho]at ho2;injection ho2 with ho2;subst ho2;exact he e h1 h2
    ·unfold upd at hj;rw [if_neg hji]at hj;exact hC j o2 ho2 hj e h1 h2
   unfold upd;split;rfl;exact hold
  have hdown: ∀d,n+d<ops.size→L (n+d) =true→L n=true:=by
   intro d
   induction d with
   | zero=>intro _ h;exact h
   | succ d ih=>
    intro hs h;obtain⟨o2,ho2,e,he2,h3,h4⟩:=onOk_at (hchain (n+d) (by omega) (by omega))
    have:=hC _ o2 ho2 h e he2 h4;rw [h3]at this;exact ih (by omega) this
  have htl: ∀m (o2:Oper),ops[m]? = some o2→ops.toList.drop m=o2 :: ops.toList.drop (m+1):=by
   intro m o2 h2;obtain⟨h3,h4⟩:=Array.getElem?_eq_some_iff.1 h2;rw [List.drop_eq_getElem_cons (by simpa using h3)]
   simp [h4]
  by_cases hin:i<n
  ·have hLn:L n=false:=by
    cases h:L n with
    | false=>rfl
    | true=>
     have:=last_all hall L hC (fun o2 ho2 e h1 h2=>hC n o2 ho2 h e h1 h2) i hin
     rw [this]at hL;cases hL
   obtain⟨s,rfl,hb,hΦ⟩:=hI hLn;refine Oper.wp_mono ?_ (hstep i o s x hin ho (fun e h1 h2=>hΦ _ (Nat.lt_trans ((regionOk2_at hok ho).2 e h1 h2) hin) (he e h1 h2)) L hb hL he)
   rintro a' y ⟨v,rfl,hb2,hg2,hv⟩;refine⟨hC2,fun _=>⟨_,rfl,hg2,fun j hj hLj=> ?_⟩,fun m hm1 hm2 hm3=> ?_⟩
   ·by_cases hji:j=i
    ·subst hji
     show Φ j (if sl j=sl j then v else s (sl j)) y
     rw [if_pos rfl];exact hv
    ·show Φ j (if sl j=sl i then v else s (sl j)) y
     rw [if_neg (fun h=>hji (hinj _ _ hj hin h))]
     exact hmono _ _ _ _ (hΦ j hj (by unfold upd at hLj;rwa [if_neg hji]at hLj)) hb2
   ·exfalso
    unfold upd at hm3
    rw [if_neg (by omega)]at hm3
    have h9:=hdown (m - n) (by omega) (by rw [show n+ (m - n) =m by omega];exact hm3)
    rw [hLn]at h9;cases h9
  ·have hT:tailWp P Q (o :: ops.toList.drop (i+1)) a x:=by
    by_cases hie:i=n
    ·subst hie
     obtain⟨s,rfl,hb,hΦ⟩:=hI hL;rw [←htl _ o ho];have hall2:=last_all hall L hC (fun o2 ho2=>by rw [ho]at ho2;injection ho2 with ho2;subst ho2;exact he)
     exact hlast s x (fun j hj=>hΦ j hj (hall2 j hj)) L hall2 hb
    ·obtain⟨o2,ho2,e,he2,h3,h4⟩:=onOk_at (hchain (i - 1) (by omega) (by omega))
     rw [show i - 1+1=i by omega]at ho2
     rw [ho]at ho2;injection ho2 with ho2;subst ho2;have h5:=he e he2 h4;rw [h3]at h5;have h6:=hD (i - 1) (by omega) (by omega) h5 (fun _=>by rw [show i - 1+1=i by omega];exact hL)
     rw [show i - 1+1=i by omega,htl _ o ho]at h6
     exact h6
   refine Oper.wp_mono ?_ hT
   intro a' y hy;refine⟨hC2,fun h=> ?_,fun m hm1 hm2 hm3 hm4=> ?_⟩
   ·exfalso
    by_cases hie:i=n
    ·subst hie;unfold upd at h;rw [if_pos rfl]at h;cases h
    ·unfold upd at h
     rw [if_neg (by omega)]at h
     obtain⟨o2,ho2,e,he2,h3,h4⟩:=onOk_at (hchain (i - 1) (by omega) (by omega))
     rw [show i - 1+1=i by omega]at ho2
     rw [ho]at ho2;injection ho2 with ho2;subst ho2;have h5:=he e he2 h4;rw [h3]at h5;have h9:=hdown (i - 1 - n) (by omega) (by rw [show n+ (i - 1 - n) =i - 1 by omega];exact h5)
     rw [h]at h9;cases h9
   ·by_cases hmi:m=i
    ·subst hmi;exact hy
    ·exfalso
     unfold upd at hm3
     rw [if_neg hmi]at hm3;have hlt:m<i:=by
      rcases Nat.lt_or_ge m i with h|h
      ·exact h
      ·have key: ∀d,i+d<ops.size→L (i+d) =true→L i=true:=by
        intro d
        induction d with
        | zero=>intro _ h;exact h
        | succ d ih=>
         intro hs h;obtain⟨o2,ho2,e,he2,h3,h4⟩:=onOk_at (hchain (i+d) (by omega) (by omega))
         have:=hC _ o2 ho2 h e he2 h4;rw [h3]at this;exact ih (by omega) this
       have:=key (m - i) (by omega) (by rw [show i+ (m - i) =m by omega];exact hm3)
       rw [hL]at this;cases this
     have h7:=hm4 (by omega)
     have key: ∀d,i - d≥m+1→upd L i (i - d) =true:=by
      intro d
      induction d with
      | zero=>intro _;unfold upd;exact if_pos rfl
      | succ d ih=>
       intro hs;have h8:=ih (by omega)
       obtain⟨o2,ho2,e,he2,h3,h4⟩:=onOk_at (hchain (i - (d+1)) (by omega) (by omega))
       rw [show i - (d+1) +1=i - d by omega]at ho2
       have h9:=hC2 _ o2 ho2 h8 e he2 h4;rw [h3]at h9;exact h9
     have h8:=key (i - (m+1)) (by omega)
     rw [show i - (i - (m+1)) =m+1 by omega,h7]at h8
     cases h8
 ·rintro L a x hL ⟨_,_,hD⟩
  have h:=hD (ops.size - 1) (by omega) (by omega) (hL _ (by omega)) (fun h=>by omega)
  rw [show ops.size - 1+1=ops.size by omega,List.drop_of_length_le (by simp)]at h
  exact h
end
end Go
/- law27.ConjunctiveContains: the region that weakens twice. -/
namespace Go.Proofs.YtiijaaohphokcaaGreatDoor
open Go.RowKit
def Wk2 (q q2:Cq) :Prop:=q2.head.l=q.head.l∧WkF q q2.lits
theorem Wk2.trans {q q1 q2:Cq} (h:Wk2 q q1) (k:Wk2 q1 q2) :Wk2 q q2:=⟨k.1.trans h.1,fun l hl=>k.2.1 l (h.2.1 l hl),by have h1:=h.2.2;have h2:=k.2.2;omega⟩
structure GN (w:World) (I:IL) (s:Sch) (w2:World) (qb a:Nat) (q:Cq) (L:Nat→Bool) (x:World) :Prop where
 ex: ∃a',a'≤a+ (if L 5=true then 3 else 0) + (if L 6=true then 3 else 0)∧LC w I s w2 qb a' q x
section
variable {w w2 x y:World} {I:IL} {s:Sch} {qb a a1 a2:Nat} {q:Cq} {L:Nat→Bool}
theorem GN.same (h:GN w I s w2 qb a q L x) (i:Nat) (hi: (i == 5 || i == 6) =false:=by decide) :GN w I s w2 qb a q (upd L i) x:=by
 obtain⟨a',h1,h2⟩:=h.ex;rw [Bool.or_eq_false_iff]at hi;have h5: ¬(5=i):=fun e=>by rw [←e]at hi;exact absurd hi.1 (by decide)
 have h6: ¬(6=i):=fun e=>by rw [←e]at hi;exact absurd hi.2 (by decide)
 exact⟨a',by unfold upd;rw [if_neg h5,if_neg h6];exact h1,h2⟩
theorem GN.alloc (h:GN w I s w2 qb a q L x) (o:Obj) (i:Nat) (hi: (i == 5 || i == 6) =false:=by decide) :GN w I s w2 qb a q (upd L i) (x.alloc o):=by
 obtain⟨a',h1,h2⟩:=(h.same i hi).ex;exact⟨a',h1,h2.below (belA o)⟩
theorem GN.t5 (hL:L 5=false) (h1:a1≤a+ (if L 5=true then 3 else 0) + (if L 6=true then 3 else 0)) (h2:a2≤a1+3) (hl:LC w I s w2 qb a2 q y) :GN w I s w2 qb a q (upd L 5) y:=⟨a2,by
 have e5:upd L 5 5=true:=by unfold upd;exact if_pos rfl
 have e6:upd L 5 6=L 6:=by unfold upd;exact if_neg (by decide)
 rw [e5,e6,if_pos rfl];rw [hL,if_neg Bool.false_ne_true]at h1;omega,hl⟩
theorem GN.t6 (hL:L 6=false) (h1:a1≤a+ (if L 5=true then 3 else 0) + (if L 6=true then 3 else 0)) (h2:a2≤a1+3) (hl:LC w I s w2 qb a2 q y) :GN w I s w2 qb a q (upd L 6) y:=⟨a2,by
 have e5:upd L 6 5=L 5:=by unfold upd;exact if_neg (by decide)
 have e6:upd L 6 6=true:=by unfold upd;exact if_pos rfl
 rw [e5,e6,if_pos rfl];rw [hL,if_neg Bool.false_ne_true]at h1;omega,hl⟩
theorem GN.le (h1:a1≤a+ (if L 5=true then 3 else 0) + (if L 6=true then 3 else 0)) :a1≤a+6:=by
 split at h1<;>split at h1<;>omega
theorem lits_off0 {g:Nat} {T:TypeId} {ls:List Li} {h:Hd} (hb:Box x g #[.int .i64 0,.slice none 0 0,.slice none 0 0] T) (hr:Row x 2 Li.cells h ls) (hp:0<ls.length) (hs:0<ls[0].sl.l.length) :h.b≠g:=by
 intro e;obtain⟨h1,h2⟩:=li_at hr hp;rw [e,hb.cell_eq]at h1 h2;have h3:=(Array.getElem?_eq_some_iff.1 h2).1;have h3:h.o+0*2+1<3:=h3;have:h.o=0∨h.o=1:=by omega
 rcases this with h4|h4
 ·rw [h4]at h2
  have h5: (some (Value.slice none 0 0)) =some (.slice ls[0].sl.h.ao ls[0].sl.l.length ls[0].sl.h.cap):=h2;injection h5 with h5;injection h5 with _ e2 _;omega
 ·rw [h4]at h1
  have h5: (some (Value.slice none 0 0)) =some (.int .i64 (ls[0].tab:Nat)):=h1
  cases h5
theorem RightQ.put0 {T:List (List Int)} {B g:Nat} {U:TypeId} (h:RightQ x T q B) (hb:Box x g #[.int .i64 0,.slice none 0 0,.slice none 0 0] U) (hT: ∀ty∈T,0<ty.length) (hg:x.grownBy y (some g)) :RightQ y T q B:=by
 have hb2:Box x g (qcells ⟨0,nilHd,[],⟨nilHd,[]⟩⟩) U:=hb;have hl:0<q.lits.length→0< (q.lits[0]?.map fun l=>l.sl.l.length).getD 0:=fun hp=>by
  obtain⟨τ,hr⟩:=h.ri;obtain⟨ty,h1,h2,_⟩:=hr.lit q.lits[0].lt (List.mem_map_of_mem (List.getElem_mem hp));rw [List.getElem?_eq_getElem hp];have h3:=hT ty (List.mem_of_getElem? h1);have h2:q.lits[0].sl.l.length=ty.length:=h2
  show 0<q.lits[0].sl.l.length
  omega
 refine⟨⟨row_grown h.qi.row hg (fun hp=>lits_off0 hb h.qi.row hp (by have:=hl hp;rwa [List.getElem?_eq_getElem hp]at this)),h.qi.ge,fun l hl=> ?_,h.qi.tb,?_,h.qi.vr⟩,h.ri,h.tl⟩
 ·have k:=h.qi.sl l hl
  exact⟨row_grown k.row hg (fun hp=>slots_off hb2 k.row hp),k.wf,k.ge⟩
 ·have k:=h.qi.hd
  exact⟨row_grown k.row hg (fun hp=>slots_off hb2 k.row hp),k.wf,k.ge⟩
theorem LC.put0 {g a':Nat} {U:TypeId} (h:LC w I s w2 qb a' q x) (hb:Box x g #[.int .i64 0,.slice none 0 0,.slice none 0 0] U) (hT: ∀ty∈colT s,0<ty.length) (hq:qb<g) (hI:0<I.l.length→I.h.b≠g) (hg:x.grownBy y (some g)) :LC w I s w2 qb a' q y:=by
 have h1:=h.lo;have h2:=h.qlo;have htl:=h.tp.lt;refine⟨h.bel.grown hg h.bel.size (fun k hk=>by injection hk with hk;omega),⟨?_,?_,?_,il_grown h.tp.row hg hI,h.tp.ne⟩,h.gr.andThen hg (fun j e=>.inl (by injection e with e;omega)),h.bs.grown hg (by intro e;injection e with e;omega),h.bq.grown hg (by intro e;injection e with e;omega),h.rq.put0 hb hT hg,h1,h2,h.ll⟩
 ·rw [hg.cell_far ⟨w.heap.size,0,none⟩ htl (fun e=>by have e:some w.heap.size=some g:=e;injection e with e;omega)];exact h.tp.lst
 ·rw [hg.cell_far ⟨w.heap.size,1,none⟩ htl (fun e=>by have e:some w.heap.size=some g:=e;injection e with e;omega)];exact h.tp.pos
 ·rw [hg.frozen_far ⟨w.heap.size,1,none⟩ htl (fun e=>by have e:some w.heap.size=some g:=e;injection e with e;omega)];exact h.tp.fr
end
theorem cn_reg4 {w w2:World} {sc:Sch} {qb a:Nat} {I:IL} {q:Cq} {W:World} (hlo:w.heap.size<w2.heap.size) (hqlo:w2.heap.size<qb) (HA:Hid (a≤4611686018427350000)) (HPS:Hid (PSch sc)) (HSI:Hid (∀z,w2.grownBy z (some w.heap.size)→sc.In z)) (HG0:Hid (GN w I sc w2 qb a q (fun _=>false) W.drew)) {Q:Exit→Act→World→Prop} {c:Code} {u0 u1 u2 u6 u7 u8 u9 u10 u11 u12 u13 u14 u15 u16 u17 u18 u19 u20 u21 u22 u23 u24 u25 u26 u27 u28 u29 u30 u31 u32 u33 u34 u35 u36 u37 u38 u39 u40 u41 u42 u43 u44 u45 u46 u47 u48 u49 u50 u51 u52 u53 u54 u55 u56 u57 u58 u59 u60 u61 u62 u63 u64 u65 u66 u67 u68 u69 u70 u71 u72 u73 u74 u75 u76 u77 u78 u79 u80:Value} (hc:c=codeIn [1,1,1,1,0] (Tryz.f4.body.getD .skip)) (hend: ∀(p1 p2:Cq) (b7 a1:Nat) x,a1≤a+6→LC w I sc w2 qb a1 q x→RightQ x (colT sc) p2 (w.heap.size+1)→Wk2 q p2→Box x b7 #[.int .i64 0,.slice none 0 0,.slice none 0 0] 32→qb<b7→Q .normal { tmps:=(u0 :: u1 :: u2 :: (.pointer (some ⟨w.heap.size,0,none⟩)) :: (.pointer (some ⟨w2.heap.size,0,none⟩)) :: (.pointer (some ⟨qb,0,none⟩)) :: .pointer (some ⟨b7,0,none⟩) :: u7 :: u8 :: u9 :: u10 :: u11 :: u12 :: u13 :: u14 :: u15 :: u16 :: u17 :: u18 :: u19 :: u20 :: .pointer (some ⟨w.heap.size,0,none⟩) :: .agg #[.slice sc.th.ao sc.tabs.length sc.th.cap] :: .pointer (some ⟨w.heap.size,0,none⟩) :: .agg #[.slice sc.th.ao sc.tabs.length sc.th.cap] :: .agg #[.int .i64 (q.vars:Nat),.slice q.lh.ao q.lits.length q.lh.cap,.slice q.head.h.ao q.head.l.length q.head.h.cap] :: .agg #[.int .i64 (p1.vars:Nat),.slice p1.lh.ao p1.lits.length p1.lh.cap,.slice p1.head.h.ao p1.head.l.length p1.head.h.cap] :: .agg #[.int .i64 (p2.vars:Nat),.slice p2.lh.ao p2.lits.length p2.lh.cap,.slice p2.head.h.ao p2.head.l.length p2.head.h.cap] :: u28 :: u29 :: u30 :: u31 :: u32 :: u33 :: u34 :: u35 :: u36 :: u37 :: u38 :: u39 :: u40 :: u41 :: u42 :: u43 :: u44 :: u45 :: u46 :: u47 :: u48 :: u49 :: u50 :: u51 :: u52 :: u53 :: u54 :: u55 :: u56 :: u57 :: u58 :: u59 :: u60 :: u61 :: u62 :: u63 :: u64 :: u65 :: u66 :: u67 :: u68 :: u69 :: u70 :: u71 :: u72 :: u73 :: u74 :: u75 :: u76 :: u77 :: u78 :: u79 :: u80 :: []).toArray,defers:= [] } (((x.setCell ⟨b7,0,none⟩ (.int .i64 (p2.vars:Nat))).setCell ⟨b7,1,none⟩ (.slice p2.lh.ao p2.lits.length p2.lh.cap)).setCell ⟨b7,2,none⟩ (.slice p2.head.h.ao p2.head.l.length p2.head.h.cap))) :Code.wp Tryz.prog c Q { tmps:=(u0 :: u1 :: u2 :: (.pointer (some ⟨w.heap.size,0,none⟩)) :: (.pointer (some ⟨w2.heap.size,0,none⟩)) :: (.pointer (some ⟨qb,0,none⟩)) :: u6 :: u7 :: u8 :: u9 :: u10 :: u11 :: u12 :: u13 :: u14 :: u15 :: u16 :: u17 :: u18 :: u19 :: u20 :: u21 :: u22 :: u23 :: u24 :: u25 :: u26 :: u27 :: u28 :: u29 :: u30 :: u31 :: u32 :: u33 :: u34 :: u35 :: u36 :: u37 :: u38 :: u39 :: u40 :: u41 :: u42 :: u43 :: u44 :: u45 :: u46 :: u47 :: u48 :: u49 :: u50 :: u51 :: u52 :: u53 :: u54 :: u55 :: u56 :: u57 :: u58 :: u59 :: u60 :: u61 :: u62 :: u63 :: u64 :: u65 :: u66 :: u67 :: u68 :: u69 :: u70 :: u71 :: u72 :: u73 :: u74 :: u75 :: u76 :: u77 :: u78 :: u79 :: u80 :: []).toArray,defers:= [] } W:=by
 subst hc;conv=>enter [2];whnf
 refine wp_region_tailL (by kernel_rfl) (by kernel_rfl) 8 (by show 8<_;decide) (by kernel_rfl) (by kernel_rfl) (fun s:Nat→Value=>({ tmps:=(u0 :: u1 :: u2 :: (.pointer (some ⟨w.heap.size,0,none⟩)) :: (.pointer (some ⟨w2.heap.size,0,none⟩)) :: (.pointer (some ⟨qb,0,none⟩)) :: s 6 :: u7 :: u8 :: u9 :: u10 :: u11 :: u12 :: u13 :: u14 :: u15 :: u16 :: u17 :: u18 :: u19 :: u20 :: s 21 :: s 22 :: s 23 :: s 24 :: s 25 :: s 26 :: s 27 :: u28 :: u29 :: u30 :: u31 :: u32 :: u33 :: u34 :: u35 :: u36 :: u37 :: u38 :: u39 :: u40 :: u41 :: u42 :: u43 :: u44 :: u45 :: u46 :: u47 :: u48 :: u49 :: u50 :: u51 :: u52 :: u53 :: u54 :: u55 :: u56 :: u57 :: u58 :: u59 :: u60 :: u61 :: u62 :: u63 :: u64 :: u65 :: u66 :: u67 :: u68 :: u69 :: u70 :: u71 :: u72 :: u73 :: u74 :: u75 :: u76 :: u77 :: u78 :: u79 :: u80 :: []).toArray,defers:= [] } : Act)) (fun k=>if k=21 then u21 else if k=22 then u22 else if k=23 then u23 else if k=24 then u24 else if k=25 then u25 else if k=26 then u26 else if k=27 then u27 else if k=6 then u6 else undef) rfl (fun x y=>x.grownBy y (some w.heap.size)) (GN w I sc w2 qb a q) ?g0 (fun i v x=>(i=5→∃p1,v = .agg #[.int .i64 (p1.vars:Nat),.slice p1.lh.ao p1.lits.length p1.lh.cap,.slice p1.head.h.ao p1.head.l.length p1.head.h.cap]∧RightQ x (colT sc) p1 (w.heap.size+1)∧Wk2 q p1)∧(i=6→∃p2,v = .agg #[.int .i64 (p2.vars:Nat),.slice p2.lh.ao p2.lits.length p2.lh.cap,.slice p2.head.h.ao p2.head.l.length p2.head.h.cap]∧RightQ x (colT sc) p2 (w.heap.size+1)∧Wk2 q p2)∧(i=7→∃b7,v = .pointer (some ⟨b7,0,none⟩)∧Box x b7 #[.int .i64 0,.slice none 0 0,.slice none 0 0] 32∧qb<b7)∧(i≠5→i≠6→i≠7→([.pointer (some ⟨w.heap.size,0,none⟩),.agg #[.slice sc.th.ao sc.tabs.length sc.th.cap],.pointer (some ⟨w.heap.size,0,none⟩),.agg #[.slice sc.th.ao sc.tabs.length sc.th.cap],.agg #[.int .i64 (q.vars:Nat),.slice q.lh.ao q.lits.length q.lh.cap,.slice q.head.h.ao q.head.l.length q.head.h.cap],undef,undef,undef] :List Value)[i]? = some v)) (fun i v x y h hb=>⟨fun hi=>(by obtain⟨p1,h0,q0,q1⟩:=h.1 hi;exact⟨p1,h0,q0.grown hb (by omega),q1⟩),fun hi=>(by obtain⟨p2,h0,q0,q1⟩:=h.2.1 hi;exact⟨p2,h0,q0.grown hb (by omega),q1⟩),fun hi=>(by obtain⟨b7,h0,q0,q1⟩:=h.2.2.1 hi;exact⟨b7,h0,q0.grown hb (fun e=>by injection e with e;omega),q1⟩),h.2.2.2⟩) (fun i=>([21,22,23,24,25,26,27,6] :List Nat).getD i 0) ?inj ?step ?last
 case g0=>exact HG0.o
 case inj=>
  intro i j hi hj h;have hI:i=0∨i=1∨i=2∨i=3∨i=4∨i=5∨i=6∨i=7:=by omega
  have hJ:j=0∨j=1∨j=2∨j=3∨j=4∨j=5∨j=6∨j=7:=by omega
  rcases hI with rfl|rfl|rfl|rfl|rfl|rfl|rfl|rfl<;>rcases hJ with rfl|rfl|rfl|rfl|rfl|rfl|rfl|rfl<;>first|rfl| (exact absurd h (by decide))
 case last=>
  intro s x hv L hL hgt;have HG:=ai hgt;have HL:=ai hL;clear hgt hL;have z0:s 21 = .pointer (some ⟨w.heap.size,0,none⟩):=by have h:=(hv 0 (by decide)).2.2.2 (by decide) (by decide) (by decide);injection h with h;exact h.symm
  have z1:s 22 = .agg #[.slice sc.th.ao sc.tabs.length sc.th.cap]:=by have h:=(hv 1 (by decide)).2.2.2 (by decide) (by decide) (by decide);injection h with h;exact h.symm
  have z2:s 23 = .pointer (some ⟨w.heap.size,0,none⟩):=by have h:=(hv 2 (by decide)).2.2.2 (by decide) (by decide) (by decide);injection h with h;exact h.symm
  have z3:s 24 = .agg #[.slice sc.th.ao sc.tabs.length sc.th.cap]:=by have h:=(hv 3 (by decide)).2.2.2 (by decide) (by decide) (by decide);injection h with h;exact h.symm
  have z4:s 25 = .agg #[.int .i64 (q.vars:Nat),.slice q.lh.ao q.lits.length q.lh.cap,.slice q.head.h.ao q.head.l.length q.head.h.cap]:=by have h:=(hv 4 (by decide)).2.2.2 (by decide) (by decide) (by decide);injection h with h;exact h.symm
  obtain⟨p1,hz5,hg5_0,hg5_1⟩:=(hv 5 (by decide)).1 rfl
  have z5:s 26 = .agg #[.int .i64 (p1.vars:Nat),.slice p1.lh.ao p1.lits.length p1.lh.cap,.slice p1.head.h.ao p1.head.l.length p1.head.h.cap]:=hz5;clear hz5;obtain⟨p2,hz6,hg6_0,hg6_1⟩:=(hv 6 (by decide)).2.1 rfl
  have z6:s 27 = .agg #[.int .i64 (p2.vars:Nat),.slice p2.lh.ao p2.lits.length p2.lh.cap,.slice p2.head.h.ao p2.head.l.length p2.head.h.cap]:=hz6;clear hz6;obtain⟨b7,hz7,hg7_0,hg7_1⟩:=(hv 7 (by decide)).2.2.1 rfl
  have z7:s 6 = .pointer (some ⟨b7,0,none⟩):=hz7;clear hz7;clear hv;obtain⟨a1,ha1,hlc⟩:=HG.o.ex;have HLC:=ai hlc;have HA1:=ai (GN.le ha1);clear ha1 hlc HG HL;have HR2:=ai hg6_0;have HK2:=ai hg6_1;have HB7:=ai hg7_0;have HQ7:=ai hg7_1;clear hg5_0 hg5_1 hg6_0 hg6_1 hg7_0 hg7_1;have o0:=HB7.o.cell (j:=0) rfl
  have o1:=HB7.o.cell (j:=1) rfl
  have o2:=HB7.o.cell (j:=2) rfl
  have f0:=HB7.o.fr 0;have f1:=HB7.o.fr 1;have f2:=HB7.o.fr 2
  show Oper.wp _ _ _ _ _ _
  refine opwp_K (fun K2 hK2=> ?_)
  go_simp
  refine hK2 _ _ ?_
  show Q _ _ _
  have h:=hend p1 p2 b7 a1 x HA1.o HLC.o HR2.o HK2.o HB7.o HQ7.o
  first|exact h| (simp only [z0,z1,z2,z3,z4,z5,z6,z7];exact h)
 case step=>
  intro i o s x hin ho he L hgb hbf hbt;have HG:=ai hgb;have HL:=ai hbf;clear hgb hbf;have hcase:i=0∨i=1∨i=2∨i=3∨i=4∨i=5∨i=6∨i=7:=by omega
  rcases hcase with rfl|rfl|rfl|rfl|rfl|rfl|rfl|rfl
  ·injection ho with ho
   subst ho;clear he hbt;refine opwp_K (fun K2 hK2=> ?_)
   go_simp
   exact hK2 _ _ ⟨(.pointer (some ⟨w.heap.size,0,none⟩)),(by first|rfl| (simp [List.getD];done)),(only_below (Below.refl _ _) _),(HG.o.same 0),⟨fun h=>absurd h (by decide),fun h=>absurd h (by decide),fun h=>absurd h (by decide),fun _ _ _=>rfl⟩⟩
  ·injection ho with ho
   subst ho;clear he hbt;obtain⟨a1,ha1,hlc⟩:=HG.o.ex;have k0:=hlc.bs.cell (j:=0) rfl
   clear hlc ha1;refine opwp_K (fun K2 hK2=> ?_)
   go_simp
   exact hK2 _ _ ⟨(.agg #[.slice sc.th.ao sc.tabs.length sc.th.cap]),(by first|rfl| (simp [List.getD];done)),(only_below (Below.refl _ _) _),(HG.o.same 1),⟨fun h=>absurd h (by decide),fun h=>absurd h (by decide),fun h=>absurd h (by decide),fun _ _ _=>rfl⟩⟩
  ·injection ho with ho
   subst ho;clear he hbt;refine opwp_K (fun K2 hK2=> ?_)
   go_simp
   exact hK2 _ _ ⟨(.pointer (some ⟨w.heap.size,0,none⟩)),(by first|rfl| (simp [List.getD];done)),(only_below (Below.refl _ _) _),(HG.o.same 2),⟨fun h=>absurd h (by decide),fun h=>absurd h (by decide),fun h=>absurd h (by decide),fun _ _ _=>rfl⟩⟩
  ·injection ho with ho
   subst ho;clear he hbt;obtain⟨a1,ha1,hlc⟩:=HG.o.ex;have k0:=hlc.bs.cell (j:=0) rfl
   clear hlc ha1;refine opwp_K (fun K2 hK2=> ?_)
   go_simp
   exact hK2 _ _ ⟨(.agg #[.slice sc.th.ao sc.tabs.length sc.th.cap]),(by first|rfl| (simp [List.getD];done)),(only_below (Below.refl _ _) _),(HG.o.same 3),⟨fun h=>absurd h (by decide),fun h=>absurd h (by decide),fun h=>absurd h (by decide),fun _ _ _=>rfl⟩⟩
  ·injection ho with ho
   subst ho;clear he hbt;obtain⟨a1,ha1,hlc⟩:=HG.o.ex;have k0:=hlc.bq.cell (j:=0) rfl
   have k1:=hlc.bq.cell (j:=1) rfl
   have k2:=hlc.bq.cell (j:=2) rfl
   clear hlc ha1;refine opwp_K (fun K2 hK2=> ?_)
   go_simp
   exact hK2 _ _ ⟨(.agg #[.int .i64 (q.vars:Nat),.slice q.lh.ao q.lits.length q.lh.cap,.slice q.head.h.ao q.head.l.length q.head.h.cap]),(by first|rfl| (simp [List.getD];done)),(only_below (Below.refl _ _) _),(HG.o.same 4),⟨fun h=>absurd h (by decide),fun h=>absurd h (by decide),fun h=>absurd h (by decide),fun _ _ _=>rfl⟩⟩
  ·injection ho with ho
   subst ho;have z2:s 23 = .pointer (some ⟨w.heap.size,0,none⟩):=by have h:=(he ⟨2,.data⟩ (by simp) rfl).2.2.2 (by decide) (by decide) (by decide);injection h with h;exact h.symm
   have z3:s 24 = .agg #[.slice sc.th.ao sc.tabs.length sc.th.cap]:=by have h:=(he ⟨3,.data⟩ (by simp) rfl).2.2.2 (by decide) (by decide) (by decide);injection h with h;exact h.symm
   have z4:s 25 = .agg #[.int .i64 (q.vars:Nat),.slice q.lh.ao q.lits.length q.lh.cap,.slice q.head.h.ao q.head.l.length q.head.h.cap]:=by have h:=(he ⟨4,.data⟩ (by simp) rfl).2.2.2 (by decide) (by decide) (by decide);injection h with h;exact h.symm
   have hL2:=hbt ⟨2,.data⟩ (by simp) rfl
   have hL3:=hbt ⟨3,.data⟩ (by simp) rfl
   have hL4:=hbt ⟨4,.data⟩ (by simp) rfl
   clear he hbt hL2 hL3 hL4;obtain⟨a1,ha1,hlc⟩:=HG.o.ex;have HLC:=ai hlc;have HA1:=ai ha1;clear ha1 hlc;refine opwp_K (fun K2 hK2=> ?_)
   go_simp
   go_at_call 11
   refine(weaker_any sc q x w.heap.size I a1 HLC.o.tp (by have:=GN.le HA1.o;have:=HA.o;omega) (HLC.o.hsi HSI.o) HPS.o HLC.o.rq).mono ?_
   rintro e y ⟨p1,a2,rfl,h1,h2,⟨h3,h5⟩,h4⟩;have HW5:=ai h5;clear h5
   go_simp
   exact hK2 _ _ ⟨_,(by first|rfl| (simp [z2,z3,z4];done)),h4,GN.t5 HL.o HA1.o h3 (HLC.o.turn h4 h2),⟨fun _=>⟨p1,rfl,h1,HW5.o⟩,fun h=>absurd h (by decide),fun h=>absurd h (by decide),fun h _ _=>absurd rfl h⟩⟩
  ·injection ho with ho
   subst ho;have z0:s 21 = .pointer (some ⟨w.heap.size,0,none⟩):=by have h:=(he ⟨0,.data⟩ (by simp) rfl).2.2.2 (by decide) (by decide) (by decide);injection h with h;exact h.symm
   have z1:s 22 = .agg #[.slice sc.th.ao sc.tabs.length sc.th.cap]:=by have h:=(he ⟨1,.data⟩ (by simp) rfl).2.2.2 (by decide) (by decide) (by decide);injection h with h;exact h.symm
   obtain⟨p1,hz5,hg5_0,hg5_1⟩:=(he ⟨5,.data⟩ (by simp) rfl).1 rfl
   have z5:s 26 = .agg #[.int .i64 (p1.vars:Nat),.slice p1.lh.ao p1.lits.length p1.lh.cap,.slice p1.head.h.ao p1.head.l.length p1.head.h.cap]:=hz5;clear hz5;have hL0:=hbt ⟨0,.data⟩ (by simp) rfl
   have hL1:=hbt ⟨1,.data⟩ (by simp) rfl
   have hL5:=hbt ⟨5,.data⟩ (by simp) rfl
   clear he hbt hL0 hL1 hL5;have HR1:=ai hg5_0;have HK1:=ai hg5_1;clear hg5_0 hg5_1;obtain⟨a1,ha1,hlc⟩:=HG.o.ex;have HLC:=ai hlc;have HA1:=ai ha1;clear ha1 hlc;refine opwp_K (fun K2 hK2=> ?_)
   go_simp
   go_at_call 11
   refine(weaker_any sc p1 x w.heap.size I a1 HLC.o.tp (by have:=GN.le HA1.o;have:=HA.o;omega) (HLC.o.hsi HSI.o) HPS.o HR1.o).mono ?_
   rintro e y ⟨p2,a2,rfl,h1,h2,⟨h3,h5⟩,h4⟩;have HW5:=ai h5;clear h5
   go_simp
   exact hK2 _ _ ⟨_,(by first|rfl| (simp [z0,z1,z5];done)),h4,GN.t6 HL.o HA1.o h3 (HLC.o.turn h4 h2),⟨fun h=>absurd h (by decide),fun _=>⟨p2,rfl,h1,HK1.o.trans HW5.o⟩,fun h=>absurd h (by decide),fun _ h _=>absurd rfl h⟩⟩
  ·injection ho with ho
   subst ho;clear he hbt;have hqx:qb<x.heap.size:=by obtain⟨a1,ha1,hlc⟩:=HG.o.ex;exact hlc.bq.lt
   refine opwp_K (fun K2 hK2=> ?_)
   go_simp
   exact hK2 _ _ ⟨_,(by first|rfl| (simp [List.getD];done)),only_below (belA _) _,HG.o.alloc _ 7,⟨fun h=>absurd h (by decide),fun h=>absurd h (by decide),fun _=>⟨_,rfl,Box.new _ _ _,hqx⟩,fun _ _ h=>absurd rfl h⟩⟩
end Go.Proofs.YtiijaaohphokcaaGreatDoor

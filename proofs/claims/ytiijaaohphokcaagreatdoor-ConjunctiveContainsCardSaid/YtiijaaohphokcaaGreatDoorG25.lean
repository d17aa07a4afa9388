/- A region that draws its order, of which one operation (m0) may turn the world: what depends on it need not abide that turn. -/
import Derived.Test.YtiijaaohphokcaaGreatDoorG19
import Derived.Test.YtiijaaohphokcaaGreatDoorG24
set_option maxRecDepth 100000
set_option maxHeartbeats 16000000
namespace Go
open Go.RowKit
section
variable {P:Program} {ops:Array Oper} {Q:Exit→Act→World→Prop}
theorem sI_ne {p:Prop} [Decidable p] {A B:Prop} (h: ¬p) (hb:B) :if p then A else B:=by rw [if_neg h];exact hb
theorem sI_eq {p:Prop} [Decidable p] {A B:Prop} (h:p) (hb:A) :if p then A else B:=by rw [if_pos h];exact hb
def depOk (ops:Array Oper) (dep:Nat→Bool) (m0 n:Nat) :Bool:=(List.range n).all fun j=> !dep j || j == m0 || ((ops[j]?).map fun o=>o.after.toList.any fun e=>Region.binds .any e && (e.on == m0 || dep e.on)).getD false
theorem dep_done {dep:Nat→Bool} {m0 n:Nat} (hd:depOk ops dep m0 n=true) (L:Nat→Bool) (hcl: ∀(i:Nat) (o:Oper),ops[i]? = some o→L i=true→∀e∈o.after.toList,Region.binds .any e=true→L e.on=true) (hlt: ∀(i:Nat) (o:Oper),ops[i]? = some o→∀e∈o.after.toList,Region.binds .any e=true→e.on<i) : ∀j,j<n→dep j=true→L j=true→L m0=true:=by
 intro j
 induction j using Nat.strongRecOn with
 | _ j ih=>
  intro hj h1 h2;have h:=List.all_eq_true.1 hd j (List.mem_range.2 hj);rw [h1,Bool.not_true,Bool.false_or,Bool.or_eq_true]at h;rcases h with h|h
  ·rw [←beq_iff_eq.1 h];exact h2
  ·cases ho:ops[j]? with
   | none=>rw [ho]at h;cases h
   | some o=>
    rw [ho]at h;simp only [Option.map_some,Option.getD_some]at h;obtain⟨e,he,h3⟩:=List.any_eq_true.1 h;rw [Bool.and_eq_true]at h3;have h4:=hcl j o ho h2 e he h3.1;have h5:=hlt j o ho e he h3.1;rcases(Bool.or_eq_true _ _).mp h3.2 with h6|h6
    ·rw [←beq_iff_eq.1 h6];exact h4
    ·exact ih e.on h5 (by omega) h6 h4
theorem wp_region_tailH {id:Nat} {a:Act} {w:World} (hm:P.follows .mixedOrders=true) (hok:regionOk2 ops=true) (n:Nat) (hn:n<ops.size) (hall:lastOk ops n=true) (hch:chainOk ops n=true) (mk: (Nat→Value)→Act) (s0:Nat→Value) (ha:a=mk s0)
  (m0:Nat) (hm0:m0<n) (dep:Nat→Bool) (hdep:depOk ops dep m0 n=true) (R:World→World→Prop) (G:Bool→World→Prop) (hG0:G false w.drew)
  (Φ:Nat→Value→World→Prop) (hmono: ∀i v x y,Φ i v x→Below x.heap.size x y→Φ i v y) (hmonoM: ∀i v x y,dep i=false→i<n→i≠m0→Φ i v x→R x y→Φ i v y) (sl:Nat→Nat) (hinj: ∀i j,i<n→j<n→sl i=sl j→i=j)
  (hstep: ∀(i:Nat) (o:Oper) (s:Nat→Value) (x:World),i<n→ops[i]? = some o→(∀e∈o.after.toList,Region.binds .any e=true→Φ e.on (s (sl e.on)) x)→∀b,G b x→(i=m0→b=false)→((∃e∈o.after.toList,Region.binds .any e=true∧e.on=m0)→b=true)→
   o.wp P (mk s) x (fun a' y=>∃v,a'=mk (fun k=>if k=sl i then v else s k)∧(if i=m0 then R x y else Below x.heap.size x y)∧G (if i=m0 then true else b) y∧Φ i v y) Q)
  (hlast: ∀(s:Nat→Value) (x:World),(∀i,i<n→Φ i (s (sl i)) x)→G true x→tailWp P Q (ops.toList.drop n) (mk s) x) : (Code.region id ops true).wp P Q a w:=by
 have hchain: ∀j,n≤j→j+1<ops.size→onOk ops j (j+1) =true:=by
  intro j hj hs;have h:=List.all_eq_true.1 hch (j - n) (List.mem_range.2 (by omega))
  rw [show n+ (j - n) =j by omega]at h
  exact h
 refine wp_region_inv2 hm (fun _ _ ho=>(regionOk2_at hok ho).1) (fun _ _ ho=>(regionOk2_at hok ho).2) (fun L a x=>(∀(i:Nat) (o:Oper),ops[i]? = some o→L i=true→∀e∈o.after.toList,Region.binds .any e=true→L e.on=true)∧(L n=false→∃s,a=mk s∧G (L m0) x∧∀i,i<n→L i=true→Φ i (s (sl i)) x)∧
  (∀m,n≤m→m<ops.size→L m=true→(m+1<ops.size→L (m+1) =false)→tailWp P Q (ops.toList.drop (m+1)) a x)) ⟨fun _ _ _ h=>(by cases h),fun _=>⟨s0,ha,hG0,fun i _ h=>(by cases h)⟩,fun _ _ _ h=>(by cases h)⟩ ?_ ?_
 ·rintro i o L a x ho hL he ⟨hC,hI,hD⟩
  have hi:=(Array.getElem?_eq_some_iff.1 ho).1;have hC2: ∀(j:Nat) (o2:Oper),ops[j]? = some o2→upd L i j=true→∀e∈o2.after.toList,Region.binds .any e=true→upd L i e.on=true:=by
   intro j o2 ho2 hj e h1 h2;have hold:L e.on=true:=by
    by_cases hji:j=i
    ·subst hji;rw [ho]at ho2;injection ho2 with ho2;subst ho2;exact he e h1 h2
    ·unfold upd at hj;rw [if_neg hji]at hj;exact hC j o2 ho2 hj e h1 h2
   unfold upd;split;rfl;exact hold
  have hdown: ∀d,n+d<ops.size→L (n+d) =true→L n=true:=by
   intro d
   induction d with
   | zero=>intro _ h;exact h
   | succ d ih=>
    intro hs h;obtain⟨o2,ho2,e,he2,h3,h4⟩:=onOk_at (hchain (n+d) (by omega) (by omega))
    have:=hC _ o2 ho2 h e he2 h4;rw [h3]at this;exact ih (by omega) this
  have htl: ∀m (o2:Oper),ops[m]? = some o2→ops.toList.drop m=o2 :: ops.toList.drop (m+1):=by
   intro m o2 h2;obtain⟨h3,h4⟩:=Array.getElem?_eq_some_iff.1 h2;rw [List.drop_eq_getElem_cons (by simpa using h3)]
   simp [h4]
  by_cases hin:i<n
  ·have hLn:L n=false:=by
    cases h:L n with
    | false=>rfl
    | true=>
     have:=last_all hall L hC (fun o2 ho2 e h1 h2=>hC n o2 ho2 h e h1 h2) i hin
     rw [this]at hL;cases hL
   obtain⟨s,rfl,hb,hΦ⟩:=hI hLn;refine Oper.wp_mono ?_ (hstep i o s x hin ho (fun e h1 h2=>hΦ _ (Nat.lt_trans ((regionOk2_at hok ho).2 e h1 h2) hin) (he e h1 h2)) (L m0) hb (fun e=>by rw [←e];exact hL) (fun⟨e,h1,h2,h3⟩=>by rw [←h3];exact he e h1 h2))
   rintro a' y ⟨v,rfl,hb2,hg2,hv⟩;refine⟨hC2,fun _=>⟨_,rfl,by unfold upd;by_cases e:i=m0;(rw [if_pos e]at hg2;rw [if_pos e.symm];exact hg2);(rw [if_neg e]at hg2;rw [if_neg (fun h=>e h.symm)];exact hg2),fun j hj hLj=> ?_⟩,fun m hm1 hm2 hm3=> ?_⟩
   ·by_cases hji:j=i
    ·subst hji
     show Φ j (if sl j=sl j then v else s (sl j)) y
     rw [if_pos rfl];exact hv
    ·show Φ j (if sl j=sl i then v else s (sl j)) y
     rw [if_neg (fun h=>hji (hinj _ _ hj hin h))]
     have hLj2:L j=true:=by unfold upd at hLj;rwa [if_neg hji]at hLj
     by_cases him:i=m0
     ·rw [if_pos him]at hb2
      refine hmonoM _ _ _ _ ?_ hj (by rw [←him];exact hji) (hΦ j hj hLj2) hb2
      cases hdj:dep j with
      | false=>rfl
      | true=>
       have h10:=dep_done hdep L (fun i2 o2 h1 h2=>hC i2 o2 h1 h2) (fun i2 o2 h1 e h2 h3=>(regionOk2_at hok h1).2 e h2 h3) j hj hdj hLj2
       rw [←him,hL]at h10
       cases h10
     ·rw [if_neg him]at hb2
      exact hmono _ _ _ _ (hΦ j hj hLj2) hb2
   ·exfalso
    unfold upd at hm3
    rw [if_neg (by omega)]at hm3
    have h9:=hdown (m - n) (by omega) (by rw [show n+ (m - n) =m by omega];exact hm3)
    rw [hLn]at h9;cases h9
  ·have hT:tailWp P Q (o :: ops.toList.drop (i+1)) a x:=by
    by_cases hie:i=n
    ·subst hie
     obtain⟨s,rfl,hb,hΦ⟩:=hI hL;rw [←htl _ o ho];have hall2:=last_all hall L hC (fun o2 ho2=>by rw [ho]at ho2;injection ho2 with ho2;subst ho2;exact he)
     rw [hall2 m0 hm0]at hb;exact hlast s x (fun j hj=>hΦ j hj (hall2 j hj)) hb
    ·obtain⟨o2,ho2,e,he2,h3,h4⟩:=onOk_at (hchain (i - 1) (by omega) (by omega))
     rw [show i - 1+1=i by omega]at ho2
     rw [ho]at ho2;injection ho2 with ho2;subst ho2;have h5:=he e he2 h4;rw [h3]at h5;have h6:=hD (i - 1) (by omega) (by omega) h5 (fun _=>by rw [show i - 1+1=i by omega];exact hL)
     rw [show i - 1+1=i by omega,htl _ o ho]at h6
     exact h6
   refine Oper.wp_mono ?_ hT
   intro a' y hy;refine⟨hC2,fun h=> ?_,fun m hm1 hm2 hm3 hm4=> ?_⟩
   ·exfalso
    by_cases hie:i=n
    ·subst hie;unfold upd at h;rw [if_pos rfl]at h;cases h
    ·unfold upd at h
     rw [if_neg (by omega)]at h
     obtain⟨o2,ho2,e,he2,h3,h4⟩:=onOk_at (hchain (i - 1) (by omega) (by omega))
     rw [show i - 1+1=i by omega]at ho2
     rw [ho]at ho2;injection ho2 with ho2;subst ho2;have h5:=he e he2 h4;rw [h3]at h5;have h9:=hdown (i - 1 - n) (by omega) (by rw [show n+ (i - 1 - n) =i - 1 by omega];exact h5)
     rw [h]at h9;cases h9
   ·by_cases hmi:m=i
    ·subst hmi;exact hy
    ·exfalso
     unfold upd at hm3
     rw [if_neg hmi]at hm3;have hlt:m<i:=by
      rcases Nat.lt_or_ge m i with h|h
      ·exact h
      ·have key: ∀d,i+d<ops.size→L (i+d) =true→L i=true:=by
        intro d
        induction d with
        | zero=>intro _ h;exact h
        | succ d ih=>
         intro hs h;obtain⟨o2,ho2,e,he2,h3,h4⟩:=onOk_at (hchain (i+d) (by omega) (by omega))
         have:=hC _ o2 ho2 h e he2 h4;rw [h3]at this;exact ih (by omega) this
       have:=key (m - i) (by omega) (by rw [show i+ (m - i) =m by omega];exact hm3)
       rw [hL]at this;cases this
     have h7:=hm4 (by omega)
     have key: ∀d,i - d≥m+1→upd L i (i - d) =true:=by
      intro d
      induction d with
      | zero=>intro _;unfold upd;exact if_pos rfl
      | succ d ih=>
       intro hs;have h8:=ih (by omega)
       obtain⟨o2,ho2,e,he2,h3,h4⟩:=onOk_at (hchain (i - (d+1)) (by omega) (by omega))
       rw [show i - (d+1) +1=i - d by omega]at ho2
       have h9:=hC2 _ o2 ho2 h8 e he2 h4;rw [h3]at h9;exact h9
     have h8:=key (i - (m+1)) (by omega)
     rw [show i - (i - (m+1)) =m+1 by omega,h7]at h8
     cases h8
 ·rintro L a x hL ⟨_,_,hD⟩
  have h:=hD (ops.size - 1) (by omega) (by omega) (hL _ (by omega)) (fun h=>by omega)
  rw [show ops.size - 1+1=ops.size by omega,List.drop_of_length_le (by simp)]at h
  exact h
end
end Go
/- A conjunctive query under construction (querylabfield.Conjunctive). -/
namespace Go.Proofs.YtiijaaohphokcaaGreatDoor
open Go.RowKit
theorem own_eqb {x y:World} {base k size:Nat} {e:TypeId} {v:Value} {xs:List Value} (h:x.ownsRow base e size v k xs) (hb: ∀g,v.ownBlock=some g→y.heap[g]? = x.heap[g]?) :y.ownsRow base e size v k xs:=by
 obtain⟨hlen,h⟩:=h;refine⟨hlen,?_⟩
 rcases h with h| ⟨g,cap,cur,rfl,h1,h2,h3⟩
 ·exact .inl h
 ·exact .inr ⟨g,cap,cur,rfl,h1,(hb g rfl).trans h2,h3⟩
theorem row_eqb {α:Type} {x y:World} {size:Nat} {cells:α→List Value} {h:Hd} {xs:List α} (hr:Row x size cells h xs) (hs:x.heap.size≤y.heap.size) (hb:y.heap[h.b]? = x.heap[h.b]?) :Row y size cells h xs:=by
 obtain⟨h1,h2,h3,h4⟩:=hr;refine⟨h1,h2,fun hp=>⟨(h3 hp).1,Nat.lt_of_lt_of_le (h3 hp).2 hs⟩,fun i hi j v hv=> ?_⟩
 rw [World.cell?_of_block (w:=x) (a:=⟨h.b,_,none⟩) hb]
 exact h4 i hi j v hv
theorem TyAt.eqb {x y:World} {b:Nat} {T:TypeId} (h:TyAt x b T) (hb:y.heap[b]? = x.heap[b]?) :TyAt y b T:=by
 obtain⟨c,hc⟩:=h;exact⟨c,hb.trans hc⟩
structure SlD (w:World) (B1:Nat) (x:World) (l:TL) :Prop where
 row:Row x 4 Tm.cells l.h l.l
 ty:TyAt x l.h.b 83
 ge:w.heap.size≤l.h.b
 lt:l.h.b<B1
theorem SlD.eqb {w x y:World} {B1:Nat} {l:TL} (h:SlD w B1 x l) (hs:x.heap.size≤y.heap.size) (hb:y.heap[l.h.b]? = x.heap[l.h.b]?) :SlD w B1 y l:=⟨row_eqb h.row hs hb,h.ty.eqb hb,h.ge,h.lt⟩
structure CB (w:World) (s:Sch) (b:Nat) (L:IL) (a:Nat) (ts:List Int) (lv:Value) (lits:List Li) (ql:Value) (B1:Nat) (cur:List (Tm V)) (cl:Value) (z:World) :Prop where
 ts:TS w w.heap.size b L a (w.heap.size+1+1+1) ts lv z
 bs:Box z w.heap.size #[.slice s.th.ao s.tabs.length s.th.cap] 27
 br:Box z (w.heap.size+1) #[.int .i64 0,.slice none 0 0,.slice none 0 0] 32
 ol:z.ownsRow w.heap.size 56 2 ql lits.length (lits.flatMap Li.cells)
 sl: ∀l∈lits,SlD w B1 z l.sl
 oc:z.ownsRow B1 83 4 cl cur.length (cur.flatMap Tm.cells)
 lo:w.heap.size≤B1
section
variable {w z y:World} {s:Sch} {b a a' B1:Nat} {L:IL} {ts ts':List Int} {lv lv' ql cl:Value} {lits:List Li} {cur:List (Tm V)}
theorem CB.bw (h:CB w s b L a ts lv lits ql B1 cur cl z) :b<w.heap.size:=h.ts.ll.1
theorem CB.ql_ne (h:CB w s b L a ts lv lits ql B1 cur cl z) {c:Nat} {T:TypeId} (ht:TyAt z c T) (hne:56≠T) :ql.ownBlock≠some c:=fun e=>(TyAt.own h.ol e).ne ht hne rfl
theorem CB.cl_ne (h:CB w s b L a ts lv lits ql B1 cur cl z) {c:Nat} {T:TypeId} (ht:TyAt z c T) (hne:83≠T) :cl.ownBlock≠some c:=fun e=>(TyAt.own h.oc e).ne ht hne rfl
theorem CB.move (h:CB w s b L a ts lv lits ql B1 cur cl z) (hk:KeptT z y b (w.heap.size+1+1+1) lv) (hs:z.heap.size≤y.heap.size) (ht:TS w w.heap.size b L a' (w.heap.size+1+1+1) ts' lv' y) :CB w s b L a' ts' lv' lits ql B1 cur cl y:=by
 have hb:=h.bw;have hty:=TyAt.box h.ts.bx;have key: ∀g T,TyAt z g T→w.heap.size≤g→g≠w.heap.size+1+1+1→3≠T→y.heap[g]? = z.heap[g]? :=fun g T hg hge hne hT=>hk g hg.lt (by omega) hne (h.ts.own_ne hg hT)
 have hlo:=h.lo;refine⟨ht,(key _ _ (TyAt.box h.bs) (by omega) (by omega) (by decide)).trans h.bs,(key _ _ (TyAt.box h.br) (by omega) (by omega) (by decide)).trans h.br,own_eqb h.ol (fun g e=>key g _ (TyAt.own h.ol e) (h.ol.lt g e).1 ((TyAt.own h.ol e).ne hty (by decide)) (by decide)),fun l hl=>(h.sl l hl).eqb hs (key _ _ (h.sl l hl).ty (h.sl l hl).ge ((h.sl l hl).ty.ne hty (by decide)) (by decide)),own_eqb h.oc (fun g e=>key g _ (TyAt.own h.oc e) (Nat.le_trans hlo (h.oc.lt g e).1) ((TyAt.own h.oc e).ne hty (by decide)) (by decide)),h.lo⟩
theorem CB.below (h:CB w s b L a ts lv lits ql B1 cur cl z) (hb:Below z.heap.size z y) :CB w s b L a ts lv lits ql B1 cur cl y:=h.move (kept_gb (only_below hb none) (fun j e=>by cases e)) hb.size (h.ts.below hb)
theorem CB.tape (h:CB w s b L a ts lv lits ql B1 cur cl z) (hg:z.grownBy y (some b)) (ht:TapeIn y b L a') :CB w s b L a' ts lv lits ql B1 cur cl y:=h.move (kept_gb hg (fun j e=>.inl (by injection e with e;exact e.symm))) hg.size (h.ts.next hg ht)
theorem CB.app {t:Tm V} {v2:Value} (h:CB w s b L a ts lv lits ql B1 cur cl z) (hg:z.grownBy y cl.ownBlock) (ho:y.ownsRow B1 83 4 v2 (cur.length+1) (cur.flatMap Tm.cells ++ Tm.cells t)) :CB w s b L a ts lv lits ql B1 (cur ++ [t]) v2 y:=by
 have hlo:=h.lo;have hT:=h.ts;have hob: ∀j,cl.ownBlock=some j→B1≤j:=fun j e=>(h.oc.lt j e).1
 have key: ∀g T,TyAt z g T→83≠T→y.heap[g]? = z.heap[g]? :=fun g T ht hne=>hg.block g ht.lt (fun e=>h.cl_ne ht hne e.symm)
 have hts:TS w w.heap.size b L a (w.heap.size+1+1+1) ts lv y:=by
  cases hcl:cl.ownBlock with
  | none=>rw [hcl]at hg;exact hT.below ⟨hg.os,hg.tape,hg.output,hg.size,fun i hi=>hg.block i hi (by simp)⟩
  | some j=>rw [hcl]at hg;exact hT.other hg (Nat.le_trans hlo (hob j hcl)) ((TyAt.box hT.bx).ne (TyAt.own h.oc hcl) (by decide)) (hT.own_ne (TyAt.own h.oc hcl) (by decide))
 refine⟨hts,(key _ _ (TyAt.box h.bs) (by decide)).trans h.bs,(key _ _ (TyAt.box h.br) (by decide)).trans h.br,own_eqb h.ol (fun g e=>key g _ (TyAt.own h.ol e) (by decide)),fun l hl=>(h.sl l hl).eqb hg.size (hg.block _ (h.sl l hl).ty.lt (fun e=>by have:=hob _ e.symm;have:=(h.sl l hl).lt;omega)),?_,hlo⟩
 have e: (cur ++ [t]).flatMap Tm.cells=cur.flatMap Tm.cells ++ Tm.cells t:=by rw [List.flatMap_append,List.flatMap_cons,List.flatMap_nil,List.append_nil]
 rw [e,List.length_append];exact ho
theorem CB.lit {l:Li} {v2:Value} (h:CB w s b L a ts lv lits ql B1 cur cl z) (hg:z.grownBy y ql.ownBlock) (ho:y.ownsRow w.heap.size 56 2 v2 (lits.length+1) (lits.flatMap Li.cells ++ Li.cells l)) (hl:l.sl.l=cur∧cl = .slice l.sl.h.ao cur.length l.sl.h.cap∧0<cur.length) :CB w s b L a ts lv (lits ++ [l]) v2 y.heap.size [] (.slice none 0 0) y:=by
 have hlo:=h.lo;have hT:=h.ts;have hob: ∀j,ql.ownBlock=some j→w.heap.size≤j:=fun j e=>(h.ol.lt j e).1
 have key: ∀g T,TyAt z g T→56≠T→y.heap[g]? = z.heap[g]? :=fun g T ht hne=>hg.block g ht.lt (fun e=>h.ql_ne ht hne e.symm)
 have hts:TS w w.heap.size b L a (w.heap.size+1+1+1) ts lv y:=by
  cases hcl:ql.ownBlock with
  | none=>rw [hcl]at hg;exact hT.below ⟨hg.os,hg.tape,hg.output,hg.size,fun i hi=>hg.block i hi (by simp)⟩
  | some j=>rw [hcl]at hg;exact hT.other hg (hob j hcl) ((TyAt.box hT.bx).ne (TyAt.own h.ol hcl) (by decide)) (hT.own_ne (TyAt.own h.ol hcl) (by decide))
 have hwy:w.heap.size≤y.heap.size:=by have:=h.bs.lt;have:=hg.size;omega
 refine⟨hts,(key _ _ (TyAt.box h.bs) (by decide)).trans h.bs,(key _ _ (TyAt.box h.br) (by decide)).trans h.br,?_,fun l2 hl2=> ?_,World.ownsRow_nil _ _ _ _,hwy⟩
 ·have e: (lits ++ [l]).flatMap Li.cells=lits.flatMap Li.cells ++ Li.cells l:=by rw [List.flatMap_append,List.flatMap_cons,List.flatMap_nil,List.append_nil]
  rw [e,List.length_append];exact ho
 ·have hk: ∀l2,SlD w y.heap.size z l2→SlD w y.heap.size y l2:=fun l2 h2=>h2.eqb hg.size (key _ _ h2.ty (by decide))
  rcases List.mem_append.1 hl2 with hl2|hl2
  ·have h3:=h.sl l2 hl2
   exact hk _ ⟨h3.row,h3.ty,h3.ge,Nat.lt_of_lt_of_le h3.ty.lt hg.size⟩
  ·rw [List.mem_singleton.1 hl2]
   obtain⟨e1,e2,e3⟩:=hl;obtain⟨⟨ao,c⟩,hv,hr⟩:=own_row (size:=4) (cells:=Tm.cells) Tm.cells_len (by decide) h.oc
   obtain⟨tab,⟨⟨ao2,c2⟩,ls⟩⟩:=l;have e1:ls=cur:=e1;subst e1;rw [e2]at hv;injection hv with h1 _ h2;have h1:ao2=ao:=h1;have h2:c2=c:=h2;subst h1;subst h2;have hb:=(hr.2.2.1 e3);have hcb:cl.ownBlock=some (Hd.b ⟨ao2,c2⟩):=by rw [e2];show(Value.slice ao2 _ _).ownBlock=_;rw [show ao2=_ from hb.1];rfl
   exact hk _ ⟨hr,TyAt.own h.oc hcb,Nat.le_trans hlo (h.oc.lt _ hcb).1,Nat.lt_of_lt_of_le hb.2 hg.size⟩
theorem CB.store {c:Nat} (h:CB w s b L a ts lv lits ql B1 cur cl z) (hc:w.heap.size+1<c) (hp:c≠w.heap.size+1+1+1) (hlv:lv.ownBlock≠some c) (hql:ql.ownBlock≠some c) (hcl:cl.ownBlock≠some c) (hsl: ∀l∈lits,l.sl.h.b≠c) (j:Nat) (v:Value) :CB w s b L a ts lv lits ql B1 cur cl (z.setCell ⟨c,j,none⟩ v):=by
 have hg:=gb_set z c j v;have key: ∀g,g≠c→g<z.heap.size→(z.setCell ⟨c,j,none⟩ v).heap[g]? = z.heap[g]? :=fun g h1 h2=>hg.block g h2 (fun e=>by injection e with e;exact h1 e)
 exact⟨h.ts.other hg (by omega) (fun e=>hp e.symm) hlv,(key _ (by omega) h.bs.lt).trans h.bs,(key _ (by omega) h.br.lt).trans h.br,own_eqb h.ol (fun g e=>key g (fun e2=>hql (by rw [←e2];exact e)) (TyAt.own h.ol e).lt),fun l hl=>(h.sl l hl).eqb hg.size (key _ (hsl l hl) (h.sl l hl).ty.lt),own_eqb h.oc (fun g e=>key g (fun e2=>hcl (by rw [←e2];exact e)) (TyAt.own h.oc e).lt),h.lo⟩
theorem CB.storeT {c:Nat} {T:TypeId} (h:CB w s b L a ts lv lits ql B1 cur cl z) (hc:w.heap.size+1<c) (hp:c≠w.heap.size+1+1+1) (ht:TyAt z c T) (hql:ql.ownBlock≠some c) (h1:3≠T) (h2:83≠T) (j:Nat) (v:Value) :CB w s b L a ts lv lits ql B1 cur cl (z.setCell ⟨c,j,none⟩ v):=
 h.store hc hp (h.ts.own_ne ht h1) hql (h.cl_ne ht h2) (fun l hl e=>(h.sl l hl).ty.ne ht h2 e) j v
end
end Go.Proofs.YtiijaaohphokcaaGreatDoor
/- querylabfield.Conjunctive: its regions that draw their order. -/
namespace Go.Proofs.YtiijaaohphokcaaGreatDoor
open Go.RowKit
noncomputable def cjBody:Code:=Tryz.f9.body.getD .skip
structure LP (w:World) (s:Sch) (b:Nat) (L:IL) (a:Nat) (ts:List Int) (lv:Value) (lits:List Li) (ql:Value) (B1:Nat) (cur:List (Tm V)) (cl:Value) (lx tab:Nat) (z:World) :Prop where
 cb:CB w s b L a ts lv lits ql B1 cur cl z
 bq:Box z (w.heap.size+1+1) #[.int .i64 0,ql,.slice none 0 0] 32
 bl:Box z lx #[.int .i64 (tab:Nat),cl] 56
 nq:ql.ownBlock≠some lx
 lo:w.heap.size+1+1+1<lx
structure LQ (w:World) (s:Sch) (b:Nat) (L:IL) (a:Nat) (ts:List Int) (lv:Value) (lits:List Li) (ql:Value) (B1:Nat) (cur:List (Tm V)) (cl:Value) (lx tab cx:Nat) (c:Col) (z:World) :Prop where
 lp:LP w s b L a ts lv lits ql B1 cur cl lx tab z
 bc:Box z cx #[.string c.name,.int .i64 c.typ,.bool c.nul] 72
 lc:w.heap.size+1+1+1<cx
section
variable {w z y:World} {s:Sch} {b a a' B1 lx tab cx:Nat} {L:IL} {ts ts':List Int} {lv lv' ql cl:Value} {lits:List Li} {cur:List (Tm V)} {c:Col}
theorem kept_box {g:Nat} {cs:Array Value} {T:TypeId} (hb:b<w.heap.size) (ht:TS w w.heap.size b L a (w.heap.size+1+1+1) ts lv z) (hk:KeptT z y b (w.heap.size+1+1+1) lv) (h:Box z g cs T) (h1:w.heap.size≤g) (h2:g≠w.heap.size+1+1+1) (h3:3≠T) :Box y g cs T:=
 (hk g h.lt (by omega) h2 (ht.own_ne (TyAt.box h) h3)).trans h
theorem LP.move (h:LP w s b L a ts lv lits ql B1 cur cl lx tab z) (hk:KeptT z y b (w.heap.size+1+1+1) lv) (hs:z.heap.size≤y.heap.size) (ht:TS w w.heap.size b L a' (w.heap.size+1+1+1) ts' lv' y) :LP w s b L a' ts' lv' lits ql B1 cur cl lx tab y:=by
 have hb:=h.cb.bw;have hlo:=h.lo;exact⟨h.cb.move hk hs ht,kept_box hb h.cb.ts hk h.bq (by omega) (by omega) (by decide),kept_box hb h.cb.ts hk h.bl (by omega) (by omega) (by decide),h.nq,h.lo⟩
theorem LP.below (h:LP w s b L a ts lv lits ql B1 cur cl lx tab z) (hb:Below z.heap.size z y) :LP w s b L a ts lv lits ql B1 cur cl lx tab y:=⟨h.cb.below hb,h.bq.below hb,h.bl.below hb,h.nq,h.lo⟩
theorem LQ.move (h:LQ w s b L a ts lv lits ql B1 cur cl lx tab cx c z) (hk:KeptT z y b (w.heap.size+1+1+1) lv) (hs:z.heap.size≤y.heap.size) (ht:TS w w.heap.size b L a' (w.heap.size+1+1+1) ts' lv' y) :LQ w s b L a' ts' lv' lits ql B1 cur cl lx tab cx c y:=by
 have hb:=h.lp.cb.bw;have hlo:=h.lc;exact⟨h.lp.move hk hs ht,kept_box hb h.lp.cb.ts hk h.bc (by omega) (by omega) (by decide),h.lc⟩
theorem LQ.below (h:LQ w s b L a ts lv lits ql B1 cur cl lx tab cx c z) (hb:Below z.heap.size z y) :LQ w s b L a ts lv lits ql B1 cur cl lx tab cx c y:=⟨h.lp.below hb,h.bc.below hb,h.lc⟩
theorem LP.app {t:Tm V} {v2:Value} (h:LP w s b L a ts lv lits ql B1 cur cl lx tab z) (hg:z.grownBy y cl.ownBlock) (ho:y.ownsRow B1 83 4 v2 (cur.length+1) (cur.flatMap Tm.cells ++ Tm.cells t)) :LP w s b L a ts lv lits ql B1 (cur ++ [t]) v2 lx tab (y.setCell ⟨lx,1,none⟩ v2)∧Box y lx #[.int .i64 (tab:Nat),cl] 56:=by
 have hlo:=h.lo;have hbl:=h.bl.grown hg (fun e=>h.cb.cl_ne (TyAt.box h.bl) (by decide) e.symm)
 have hbq:=h.bq.grown hg (fun e=>h.cb.cl_ne (TyAt.box h.bq) (by decide) e.symm)
 have hcb:=h.cb.app (t:=t) hg ho
 have hs:=gb_set y lx 1 v2;refine⟨⟨hcb.storeT (by omega) (by omega) (TyAt.box hbl) h.nq (by decide) (by decide) 1 v2,hbq.grown hs (by intro e;injection e with e;omega),?_,h.nq,h.lo⟩,hbl⟩
 have:=hbl.set 1 v2
 simpa only [List.setIfInBounds_toArray,List.set_cons_zero,List.set_cons_succ]using this
end
structure ST (w:World) (s:Sch) (b:Nat) (L:IL) (a:Nat) (ts:List Int) (lits:List Li) (ql:Value) (B1:Nat) (cur:List (Tm V)) (cl:Value) (lx tab:Nat) (typ:Int) (t:Tm V) (a':Nat) (ts':List Int) (lv':Value) (x:World) :Prop where
 lp:LP w s b L a' ts' lv' lits ql B1 cur cl lx tab x
 ap:a'≤a+3
 tr:ts'=ts∨(ts'=ts ++ [typ]∧t = .v ts.length)
 ok:SlotOk ts'.length (fun n=>ts'.getD n 0) t typ
 wf:t.wf
theorem ST.below {w x y:World} {s:Sch} {b a a' B1 lx tab:Nat} {L:IL} {ts ts':List Int} {lv' ql cl:Value} {lits:List Li} {cur:List (Tm V)} {typ:Int} {t:Tm V} (h:ST w s b L a ts lits ql B1 cur cl lx tab typ t a' ts' lv' x) (hb:Below x.heap.size x y) :ST w s b L a ts lits ql B1 cur cl lx tab typ t a' ts' lv' y:=⟨h.lp.below hb,h.ap,h.tr,h.ok,h.wf⟩
structure LG (w:World) (s:Sch) (b:Nat) (L:IL) (a:Nat) (ts:List Int) (lv:Value) (lits:List Li) (ql:Value) (B1:Nat) (cur:List (Tm V)) (cl:Value) (lx tab cx:Nat) (c:Col) (bb:Bool) (x:World) :Prop where
 lq:bb=false→LQ w s b L a ts lv lits ql B1 cur cl lx tab cx c x
 bl:Box x lx #[.int .i64 (tab:Nat),cl] 56
 bc:Box x cx #[.string c.name,.int .i64 c.typ,.bool c.nul] 72
theorem LG.below {w x y:World} {s:Sch} {b a B1 lx tab cx:Nat} {L:IL} {ts:List Int} {lv ql cl:Value} {lits:List Li} {cur:List (Tm V)} {c:Col} {bb:Bool} (h:LG w s b L a ts lv lits ql B1 cur cl lx tab cx c bb x) (hb:Below x.heap.size x y) :LG w s b L a ts lv lits ql B1 cur cl lx tab cx c bb y:=⟨fun e=>(h.lq e).below hb,h.bl.below hb,h.bc.below hb⟩
theorem info_slot4: (Tryz.prog.info? 83).map (fun i=>(i.zero,i.size,i.bytes)) =some (some (.agg #[.int .i64 0,.int .i64 0,.int .i64 0,.string ⟨#[]⟩]),4,40):=by kernel_rfl
theorem tm_one (t:Tm V) : ∀u∈ [Value.int .i64 t.nr,.int .i64 t.val.kind,.int .i64 t.val.num,.string t.val.text],u.oneCell'=true:=fun u hu=>by
 simp only [List.mem_cons,List.not_mem_nil,or_false]at hu;rcases hu with rfl|rfl|rfl|rfl<;>rfl
structure B1le (w:World) (s:Sch) (b:Nat) (L:IL) (lits:List Li) (ql:Value) (B1:Nat) (cur:List (Tm V)) (cl:Value) (lx tab:Nat) :Prop where
 lt:B1≤lx+1
theorem B1le.le {w:World} {s:Sch} {b:Nat} {L:IL} {lits:List Li} {ql:Value} {B1:Nat} {cur:List (Tm V)} {cl:Value} {lx tab a2:Nat} {ts2:List Int} {lv2:Value} (h:B1le w s b L lits ql B1 cur cl lx tab) (x:World) (hl:LP w s b L a2 ts2 lv2 lits ql B1 cur cl lx tab x) :B1≤x.heap.size:=by
 have:=h.lt;have:=hl.bl.lt;omega
theorem cj_reg10 {w:World} {sc:Sch} {b a B1 lx tab cx:Nat} {L:IL} {ts:List Int} {lv ql cl:Value} {lits:List Li} {cur:List (Tm V)} {co:Col} {W:World} (HTY:Hid (co.typ=1∨co.typ=3)) (HA:Hid (a≤4611686018427387000)) (HTS:Hid (ts.length≤900)) (HCU:Hid (cur.length≤1000)) (HB1:Hid (B1le w sc b L lits ql B1 cur cl lx tab)) (HG0:Hid (LG w sc b L a ts lv lits ql B1 cur cl lx tab cx co false W.drew)) {Q:Exit→Act→World→Prop} {c:Code} {u1 u2 u3 u4 u5 u6 u7 u9 u11 u13 u14 u15 u16 u17 u18 u19 u20 u21 u22 u23 u24 u25 u26 u27 u28 u29 u30 u31 u32 u33 u34 u35 u36 u37 u38 u39 u40 u41 u42 u43 u44 u45 u46 u47 u48 u49 u50 u51 u52 u53 u54 u55 u56 u57 u58 u59 u60 u61 u62 u63 u64 u65 u66 u67 u68 u69 u70 u71 u72 u73 u74 u75 u76 u77 u78 u79 u80 u81 u82 u83 u84 u85 u86 u87 u88 u89 u90 u91:Value} (hc:c=codeIn [1,1,1,0,1,4,5,1,0,4,1,0,1,4,5,1,1,0,4,1] cjBody) (hend: ∀(t5:Tm V) (b6:Nat) (t6:Tm V) (a2:Nat) (ts2:List Int) (lv2:Value) (g4 cap4:Nat) x,LP w sc b L a2 ts2 lv2 lits ql B1 (cur ++ [t6]) (.slice (some ⟨g4,0,none⟩) (cur.length+1) cap4) lx tab x→a2≤a+3→(ts2=ts∨(ts2=ts ++ [co.typ]∧t6 = .v ts.length))→SlotOk ts2.length (fun n=>ts2.getD n 0) t6 co.typ→t6.wf→Q .normal { tmps:=((.pointer (some ⟨b,0,none⟩)) :: u1 :: u2 :: u3 :: u4 :: u5 :: u6 :: u7 :: (.pointer (some ⟨w.heap.size+1+1+1,0,none⟩)) :: u9 :: (.pointer (some ⟨lx,0,none⟩)) :: u11 :: (.pointer (some ⟨cx,0,none⟩)) :: u13 :: u14 :: u15 :: u16 :: u17 :: u18 :: u19 :: u20 :: u21 :: u22 :: u23 :: u24 :: u25 :: u26 :: u27 :: u28 :: u29 :: u30 :: u31 :: u32 :: u33 :: u34 :: u35 :: u36 :: u37 :: u38 :: .pointer (some ⟨lx,1,none⟩) :: cl :: .pointer (some ⟨b,0,none⟩) :: .pointer (some ⟨cx,1,none⟩) :: .int .i64 co.typ :: .agg #[.int .i64 t5.nr,.int .i64 t5.val.kind,.int .i64 t5.val.num,.string t5.val.text] :: .slice (some ⟨b6,0,none⟩) 1 1 :: .slice (some ⟨g4,0,none⟩) (cur.length+1) cap4 :: .pointer (some ⟨lx,1,none⟩) :: u48 :: u49 :: u50 :: u51 :: u52 :: u53 :: u54 :: u55 :: u56 :: u57 :: u58 :: u59 :: u60 :: u61 :: u62 :: u63 :: u64 :: u65 :: u66 :: u67 :: u68 :: u69 :: u70 :: u71 :: u72 :: u73 :: u74 :: u75 :: u76 :: u77 :: u78 :: u79 :: u80 :: u81 :: u82 :: u83 :: u84 :: u85 :: u86 :: u87 :: u88 :: u89 :: u90 :: u91 :: []).toArray,defers:= [] } x) :Code.wp Tryz.prog c Q { tmps:=((.pointer (some ⟨b,0,none⟩)) :: u1 :: u2 :: u3 :: u4 :: u5 :: u6 :: u7 :: (.pointer (some ⟨w.heap.size+1+1+1,0,none⟩)) :: u9 :: (.pointer (some ⟨lx,0,none⟩)) :: u11 :: (.pointer (some ⟨cx,0,none⟩)) :: u13 :: u14 :: u15 :: u16 :: u17 :: u18 :: u19 :: u20 :: u21 :: u22 :: u23 :: u24 :: u25 :: u26 :: u27 :: u28 :: u29 :: u30 :: u31 :: u32 :: u33 :: u34 :: u35 :: u36 :: u37 :: u38 :: u39 :: u40 :: u41 :: u42 :: u43 :: u44 :: u45 :: u46 :: u47 :: u48 :: u49 :: u50 :: u51 :: u52 :: u53 :: u54 :: u55 :: u56 :: u57 :: u58 :: u59 :: u60 :: u61 :: u62 :: u63 :: u64 :: u65 :: u66 :: u67 :: u68 :: u69 :: u70 :: u71 :: u72 :: u73 :: u74 :: u75 :: u76 :: u77 :: u78 :: u79 :: u80 :: u81 :: u82 :: u83 :: u84 :: u85 :: u86 :: u87 :: u88 :: u89 :: u90 :: u91 :: []).toArray,defers:= [] } W:=by
 subst hc;conv=>enter [2];whnf
 refine wp_region_tailH (by kernel_rfl) (by kernel_rfl) 7 (by show 7<_;decide) (by kernel_rfl) (by kernel_rfl) (fun s:Nat→Value=>({ tmps:=((.pointer (some ⟨b,0,none⟩)) :: u1 :: u2 :: u3 :: u4 :: u5 :: u6 :: u7 :: (.pointer (some ⟨w.heap.size+1+1+1,0,none⟩)) :: u9 :: (.pointer (some ⟨lx,0,none⟩)) :: u11 :: (.pointer (some ⟨cx,0,none⟩)) :: u13 :: u14 :: u15 :: u16 :: u17 :: u18 :: u19 :: u20 :: u21 :: u22 :: u23 :: u24 :: u25 :: u26 :: u27 :: u28 :: u29 :: u30 :: u31 :: u32 :: u33 :: u34 :: u35 :: u36 :: u37 :: u38 :: s 39 :: s 40 :: s 41 :: s 42 :: s 43 :: s 44 :: s 45 :: u46 :: u47 :: u48 :: u49 :: u50 :: u51 :: u52 :: u53 :: u54 :: u55 :: u56 :: u57 :: u58 :: u59 :: u60 :: u61 :: u62 :: u63 :: u64 :: u65 :: u66 :: u67 :: u68 :: u69 :: u70 :: u71 :: u72 :: u73 :: u74 :: u75 :: u76 :: u77 :: u78 :: u79 :: u80 :: u81 :: u82 :: u83 :: u84 :: u85 :: u86 :: u87 :: u88 :: u89 :: u90 :: u91 :: []).toArray,defers:= [] } : Act)) (fun k=>if k=39 then u39 else if k=40 then u40 else if k=41 then u41 else if k=42 then u42 else if k=43 then u43 else if k=44 then u44 else if k=45 then u45 else undef) rfl 5 (by decide) (fun i=>([false,false,false,false,false,true,true] :List Bool).getD i false) (by kernel_rfl) (fun _ _=>True) (LG w sc b L a ts lv lits ql B1 cur cl lx tab cx co) ?g0 (fun i v x=>(i=5→∃t5 a2 ts2 lv2,v = .agg #[.int .i64 t5.nr,.int .i64 t5.val.kind,.int .i64 t5.val.num,.string t5.val.text]∧ST w sc b L a ts lits ql B1 cur cl lx tab co.typ t5 a2 ts2 lv2 x)∧(i=6→∃b6 t6 a2 ts2 lv2,v = .slice (some ⟨b6,0,none⟩) 1 1∧ST w sc b L a ts lits ql B1 cur cl lx tab co.typ t6 a2 ts2 lv2 x∧Box x b6 #[.int .i64 t6.nr,.int .i64 t6.val.kind,.int .i64 t6.val.num,.string t6.val.text] 83)∧(i≠5→i≠6→([.pointer (some ⟨lx,1,none⟩),cl,.pointer (some ⟨b,0,none⟩),.pointer (some ⟨cx,1,none⟩),.int .i64 co.typ,undef,undef] :List Value)[i]? = some v)) (fun i v x y h hb=>⟨fun hi=>(by obtain⟨t5,a2,ts2,lv2,h0,q0⟩:=h.1 hi;exact⟨t5,a2,ts2,lv2,h0,q0.below hb⟩),fun hi=>(by obtain⟨b6,t6,a2,ts2,lv2,h0,q0,q1⟩:=h.2.1 hi;exact⟨b6,t6,a2,ts2,lv2,h0,q0.below hb,q1.below hb⟩),h.2.2⟩) (fun i v x y hd _ _ h hb=>⟨fun hi=>(by subst hi;exact absurd hd (by decide)),fun hi=>(by subst hi;exact absurd hd (by decide)),h.2.2⟩) (fun i=>([39,40,41,42,43,44,45] :List Nat).getD i 0) ?inj ?step ?last
 case g0=>exact HG0.o
 case inj=>
  intro i j hi hj h;have hI:i=0∨i=1∨i=2∨i=3∨i=4∨i=5∨i=6:=by omega
  have hJ:j=0∨j=1∨j=2∨j=3∨j=4∨j=5∨j=6:=by omega
  rcases hI with rfl|rfl|rfl|rfl|rfl|rfl|rfl<;>rcases hJ with rfl|rfl|rfl|rfl|rfl|rfl|rfl<;>first|rfl| (exact absurd h (by decide))
 case last=>
  intro s x hv hgt;have HG:=ai hgt;clear hgt;have z0:s 39 = .pointer (some ⟨lx,1,none⟩):=by have h:=(hv 0 (by decide)).2.2 (by decide) (by decide);injection h with h;exact h.symm
  have z1:s 40=cl:=by have h:=(hv 1 (by decide)).2.2 (by decide) (by decide);injection h with h;exact h.symm
  have z2:s 41 = .pointer (some ⟨b,0,none⟩):=by have h:=(hv 2 (by decide)).2.2 (by decide) (by decide);injection h with h;exact h.symm
  have z3:s 42 = .pointer (some ⟨cx,1,none⟩):=by have h:=(hv 3 (by decide)).2.2 (by decide) (by decide);injection h with h;exact h.symm
  have z4:s 43 = .int .i64 co.typ:=by have h:=(hv 4 (by decide)).2.2 (by decide) (by decide);injection h with h;exact h.symm
  obtain⟨t5,a2,ts2,lv2,hz5,hg5_0⟩:=(hv 5 (by decide)).1 rfl
  have z5:s 44 = .agg #[.int .i64 t5.nr,.int .i64 t5.val.kind,.int .i64 t5.val.num,.string t5.val.text]:=hz5;clear hz5;obtain⟨b6,t6,a2,ts2,lv2,hz6,hg6_0,hg6_1⟩:=(hv 6 (by decide)).2.1 rfl
  have z6:s 45 = .slice (some ⟨b6,0,none⟩) 1 1:=hz6;clear hz6;clear hv;obtain⟨i0,hi,hz0,hz1,hz2⟩:=info_parts info_slot4;have HLP:=ai hg6_0
  show Oper.wp _ _ _ _ _ _
  refine wp_append_own x _ _ 30 rfl B1 83 i0 (.agg #[.int .i64 0,.int .i64 0,.int .i64 0,.string ⟨#[]⟩]) 4 40 Tryz.underlying30 hi hz0 hz1 hz2 rfl (by decide) cl cur.length _ (by show s 40=_;exact z1) HLP.o.lp.cb.oc ⟨b6,0,none⟩ 1 1 [.int .i64 t6.nr,.int .i64 t6.val.kind,.int .i64 t6.val.num,.string t6.val.text] (by show s 45=_;exact z6) rfl (box_cells hg6_1) (tm_one t6) (by have:=HCU.o;unfold maxLen;omega) (by have:=HCU.o;omega) (HB1.o.le x HLP.o.lp) ?_
  intro v2 y2 hown hgr _;obtain⟨g4,cap4,rfl⟩:=ownsRow_succ hown;obtain⟨hA,hbl⟩:=HLP.o.lp.app (t:=t6) hgr (by rw [Tm.cells_eq];exact hown)
  have HS:=ai hA;have k1:=hbl.cell (j:=1) rfl
  have f1:=hbl.fr 1;clear hown hgr hi hz0 hz1 hz2 hg6_0 hg6_1 hA hbl
  show Oper.wp _ _ _ _ _ _
  refine opwp_K (fun K2 hK2=> ?_)
  go_simp
  refine hK2 _ _ ?_
  show Oper.wp _ _ _ _ _ _
  clear hK2;refine opwp_K (fun K3 hK3=> ?_)
  go_simp
  refine hK3 _ _ ?_
  have h:=hend t5 b6 t6 _ _ _ g4 cap4 _ HS.o HLP.o.ap HLP.o.tr HLP.o.ok HLP.o.wf
  show Q _ _ _
  first|exact h| (simp only [z0,z1,z2,z3,z4,z5,z6];exact h)
 case step=>
  intro i o s x hin ho he bb hgb hbf hbt;have HG:=ai hgb;clear hgb;have hcase:i=0∨i=1∨i=2∨i=3∨i=4∨i=5∨i=6:=by omega
  rcases hcase with rfl|rfl|rfl|rfl|rfl|rfl|rfl
  ·injection ho with ho
   subst ho;clear he hbf hbt;refine opwp_K (fun K2 hK2=> ?_)
   go_simp
   exact hK2 _ _ ⟨(.pointer (some ⟨lx,1,none⟩)),(by first|rfl| (simp [List.getD];done)),sI_ne (by decide) (Below.refl _ _),gIf_ne (G:=LG w sc b L a ts lv lits ql B1 cur cl lx tab cx co) (by decide) HG.o,⟨fun h=>absurd h (by decide),fun h=>absurd h (by decide),fun _ _=>rfl⟩⟩
  ·injection ho with ho
   subst ho;have z0:s 39 = .pointer (some ⟨lx,1,none⟩):=by have h:=(he ⟨0,.data⟩ (by simp) rfl).2.2 (by decide) (by decide);injection h with h;exact h.symm
   clear he hbf hbt;have k1:=HG.o.bl.cell (j:=1) rfl
   refine opwp_K (fun K2 hK2=> ?_)
   go_simp
   exact hK2 _ _ ⟨(cl),(by first|rfl| (simp [z0];done)),sI_ne (by decide) (Below.refl _ _),gIf_ne (G:=LG w sc b L a ts lv lits ql B1 cur cl lx tab cx co) (by decide) HG.o,⟨fun h=>absurd h (by decide),fun h=>absurd h (by decide),fun _ _=>rfl⟩⟩
  ·injection ho with ho
   subst ho;clear he hbf hbt;refine opwp_K (fun K2 hK2=> ?_)
   go_simp
   exact hK2 _ _ ⟨(.pointer (some ⟨b,0,none⟩)),(by first|rfl| (simp [List.getD];done)),sI_ne (by decide) (Below.refl _ _),gIf_ne (G:=LG w sc b L a ts lv lits ql B1 cur cl lx tab cx co) (by decide) HG.o,⟨fun h=>absurd h (by decide),fun h=>absurd h (by decide),fun _ _=>rfl⟩⟩
  ·injection ho with ho
   subst ho;clear he hbf hbt;refine opwp_K (fun K2 hK2=> ?_)
   go_simp
   exact hK2 _ _ ⟨(.pointer (some ⟨cx,1,none⟩)),(by first|rfl| (simp [List.getD];done)),sI_ne (by decide) (Below.refl _ _),gIf_ne (G:=LG w sc b L a ts lv lits ql B1 cur cl lx tab cx co) (by decide) HG.o,⟨fun h=>absurd h (by decide),fun h=>absurd h (by decide),fun _ _=>rfl⟩⟩
  ·injection ho with ho
   subst ho;have z3:s 42 = .pointer (some ⟨cx,1,none⟩):=by have h:=(he ⟨3,.data⟩ (by simp) rfl).2.2 (by decide) (by decide);injection h with h;exact h.symm
   clear he hbf hbt;have k1:=HG.o.bc.cell (j:=1) rfl
   refine opwp_K (fun K2 hK2=> ?_)
   go_simp
   exact hK2 _ _ ⟨(.int .i64 co.typ),(by first|rfl| (simp [z3];done)),sI_ne (by decide) (Below.refl _ _),gIf_ne (G:=LG w sc b L a ts lv lits ql B1 cur cl lx tab cx co) (by decide) HG.o,⟨fun h=>absurd h (by decide),fun h=>absurd h (by decide),fun _ _=>rfl⟩⟩
  ·injection ho with ho
   subst ho;have z2:s 41 = .pointer (some ⟨b,0,none⟩):=by have h:=(he ⟨2,.data⟩ (by simp) rfl).2.2 (by decide) (by decide);injection h with h;exact h.symm
   have z4:s 43 = .int .i64 co.typ:=by have h:=(he ⟨4,.data⟩ (by simp) rfl).2.2 (by decide) (by decide);injection h with h;exact h.symm
   obtain rfl:bb=false:=hbf rfl;clear he hbf hbt;have HQ:=ai (HG.o.lq rfl);refine opwp_K (fun K2 hK2=> ?_)
   go_simp
   go_at_call 40
   refine(slot_any w w.heap.size b L a (w.heap.size+1+1+1) ts lv co.typ x HQ.o.lp.cb.ts HTY.o HA.o HTS.o).mono ?_
   rintro e y ⟨t,ts2,lv2,a2,rfl,hT,hap,htr,hok,hwf,hk,hs⟩
   go_simp
   have hL:=HQ.o.move hk hs hT;exact hK2 _ _ ⟨(_),(by first|rfl| (simp [z2,z4];done)),sI_eq rfl (trivial),gIf_eq (G:=LG w sc b L a ts lv lits ql B1 cur cl lx tab cx co) (⟨fun e=>(by cases e),hL.lp.bl,hL.bc⟩),⟨fun _=>⟨t,a2,ts2,lv2,rfl,⟨hL.lp,hap,htr,hok,hwf⟩⟩,fun h=>absurd h (by decide),fun h _=>absurd rfl h⟩⟩
  ·injection ho with ho
   subst ho;obtain⟨t5,a2,ts2,lv2,hz5,hg5_0⟩:=(he ⟨5,.data⟩ (by simp) rfl).1 rfl
   have z5:s 44 = .agg #[.int .i64 t5.nr,.int .i64 t5.val.kind,.int .i64 t5.val.num,.string t5.val.text]:=hz5;clear hz5;obtain rfl:bb=true:=hbt ⟨⟨5,.data⟩,by simp,rfl,rfl⟩
   clear he hbf hbt;refine opwp_K (fun K2 hK2=> ?_)
   go_simp
   exact hK2 _ _ ⟨(_),(by first|rfl| (simp [z5];done)),sI_ne (by decide) (belA _),gIf_ne (G:=LG w sc b L a ts lv lits ql B1 cur cl lx tab cx co) (by decide) (HG.o.below (belA _)),⟨fun h=>absurd h (by decide),fun _=>⟨_,t5,a2,ts2,lv2,rfl,hg5_0.below (belA _),Box.new _ _ _⟩,fun _ h=>absurd rfl h⟩⟩
end Go.Proofs.YtiijaaohphokcaaGreatDoor

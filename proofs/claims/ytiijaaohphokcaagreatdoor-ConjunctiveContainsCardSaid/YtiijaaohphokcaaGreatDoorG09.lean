/- A region that draws its order, by an invariant over what has been carried out: no order is enumerated. -/
import Derived.Orders
import Derived.WalkKit
import Derived.ArgAppend
set_option maxRecDepth 100000
set_option maxHeartbeats 16000000
namespace Go
section
variable {P:Program} {ops:Array Oper} {Q:Exit→Act→World→Prop}
def upd (L:Nat→Bool) (i:Nat) :Nat→Bool:=fun j=>if j=i then true else L j
theorem ready_mem {md:Region.Mode} {listed:Array Bool} {i:Nat} (h:i∈Region.ready md ops listed) :
  ∃o,ops[i]? = some o∧listed.getD i true=false∧∀e∈o.after.toList,Region.binds md e=true→listed.getD e.on false=true:=by
 unfold Region.ready at h
 rw [List.mem_filter]at h;obtain⟨h1,h2⟩:=h;rw [Bool.and_eq_true]at h2;obtain⟨h3,h4⟩:=h2
 cases ho:ops[i]? with
 | none=>rw [ho]at h4;cases h4
 | some o=>
  rw [ho]at h4;simp only [Option.map_some,Option.getD_some,Array.all_eq_true']at h4;refine⟨o,rfl,by simpa using h3,fun e he hb=> ?_⟩
  have:=h4 e (by simpa using he)
  rw [hb]at this
  simpa using this
def regionOk (ops:Array Oper) :Bool:=(List.range ops.size).all fun i=>((ops[i]?).map fun o=>o.guard.isNone && o.after.toList.all (fun e=>decide (e.on<i))).getD true
end
end Go
/- A region that draws its order: of the edges only those that bind have to lead back. -/
namespace Go
section
variable {P:Program} {ops:Array Oper} {Q:Exit→Act→World→Prop}
theorem ready_low2 {md:Region.Mode} {listed:Array Bool} (hlow: ∀(i:Nat) (o:Oper),ops[i]? = some o→∀e∈o.after.toList,Region.binds md e=true→e.on<i) (hr:Region.ready md ops listed = []) (hsz:listed.size=ops.size) :
  ∀i,i<ops.size→listed.getD i false=true:=by
 intro i
 induction i using Nat.strongRecOn with
 | _ i ih=>
 intro hi
 cases hl:listed.getD i false with
 | true=>rfl
 | false=>
  exfalso
  have hmem:i∈Region.ready md ops listed:=by
   unfold Region.ready
   rw [List.mem_filter];refine⟨List.mem_range.2 hi,?_⟩
   have ho:ops[i]? = some ops[i]:=Array.getElem?_eq_getElem hi;have h1:listed.getD i true=false:=by
    simp only [Array.getD,hsz,hi]at hl ⊢
    simpa using hl
   rw [ho,h1];simp only [Option.map_some,Option.getD_some,Bool.not_false,Bool.true_and,Array.all_eq_true'];intro e he
   cases hbd:Region.binds md e with
   | false=>simp
   | true=>
    have h2:=hlow i _ ho e (by simpa using he) hbd
    rw [ih e.on h2 (by omega)]
    simp
  rw [hr]at hmem
  cases hmem
theorem wp_region_inv2 {id:Nat} {a:Act} {w:World} (hm:P.follows .mixedOrders=true) (hng: ∀(i:Nat) (o:Oper),ops[i]? = some o→o.guard=none)
  (hlow: ∀(i:Nat) (o:Oper),ops[i]? = some o→∀e∈o.after.toList,Region.binds .any e=true→e.on<i) (Inv: (Nat→Bool)→Act→World→Prop) (h0:Inv (fun _=>false) a w.drew)
  (hstep: ∀(i:Nat) (o:Oper) (L:Nat→Bool) (a:Act) (w:World),ops[i]? = some o→L i=false→(∀e∈o.after.toList,Region.binds .any e=true→L e.on=true)→Inv L a w→o.wp P a w (fun a' w'=>Inv (upd L i) a' w') Q)
  (hend: ∀(L:Nat→Bool) (a:Act) (w:World),(∀i,i<ops.size→L i=true)→Inv L a w→Q .normal a w) : (Code.region id ops true).wp P Q a w:=by
 refine wp_region_any hm ?_
 have key: ∀(fuel:Nat) (listed:Array Bool) (a:Act) (w:World),listed.size=ops.size→listed.toList.count false≤fuel→Inv (fun i=>listed.getD i false) a w→wpAny P .any ops Q fuel listed a w:=by
  intro fuel
  induction fuel with
  | zero=>
   intro listed a w hsz hc hI;have hall: ∀i,i<ops.size→listed.getD i false=true:=by
    intro i hi
    cases hl:listed.getD i false with
    | true=>rfl
    | false=>
     have hi':i<listed.size:=by omega
     have hm:false∈listed.toList:=by
      have:listed[i] =false:=by simpa [Array.getD,hi']using hl
      rw [←this];exact Array.getElem_mem_toList hi'
     have:=List.count_pos_iff.2 hm;omega
   refine⟨?_,hend _ a w hall hI⟩
   cases hr:Region.ready .any ops listed with
   | nil=>rfl
   | cons i r=>
    obtain⟨o,ho,h1,_⟩:=ready_mem (i:=i) (by rw [hr];simp)
    have hi:=(Array.getElem?_eq_some_iff.1 ho).1;have h2:=hall i hi;have hi':i<listed.size:=by omega
    simp [Array.getD,hi']at h1 h2;rw [h1]at h2
    cases h2
  | succ fuel ih=>
   intro listed a w hsz hc hI;refine⟨fun hr=>hend _ a w (ready_low2 hlow hr hsz) hI,fun i hi=> ?_⟩
   obtain⟨o,ho,h1,h2⟩:=ready_mem hi;have his:=(Array.getElem?_eq_some_iff.1 ho).1;have hi':i<listed.size:=by omega
   have hlf:listed.getD i false=false:=by
    simp [Array.getD,hi']at h1 ⊢;exact h1
   refine wpOp_mono (K:=fun a' w'=>Inv (upd (fun i=>listed.getD i false) i) a' w') (fun a' w' h=> ?_) ?_
   ·refine ih _ a' w' (by simpa using hsz) ?_ ?_
    ·have hlc:listed[i] =false:=by simpa [Array.getD,hi']using hlf
     rw [Array.toList_setIfInBounds];have h3:=List.count_set (l:=listed.toList) (a:=true) (b:=false) (i:=i) (by simpa using hi')
     rw [h3];have h4:listed.toList[i]'(by simpa using hi') =false:=by simpa using hlc
     rw [h4]
     show(List.count false listed.toList - 1) +0≤fuel
     omega
    ·have e: (fun j=>(listed.setIfInBounds i true).getD j false) =upd (fun j=>listed.getD j false) i:=by
      funext j
      unfold upd
      by_cases hj:j=i
      ·subst hj
       simp [Array.getD,hi']
      ·rw [if_neg hj]
       simp only [Array.getD,Array.size_setIfInBounds];by_cases hjs:j<listed.size
       ·rw [dif_pos hjs,dif_pos hjs]
        simp only [Array.getInternal_eq_getElem];rw [Array.getElem_setIfInBounds_ne (hj:=hjs) (h:=fun h=>hj h.symm)]
       ·rw [dif_neg hjs,dif_neg hjs]
     rw [e];exact h
   ·unfold wpOp
    rw [ho];have hw:Region.wanted o (yielded ops a.tmps) =true:=by simp [Region.wanted,hng i o ho]
    show if Region.wanted o (yielded ops a.tmps) =true then _ else _
    rw [if_pos hw];exact .inl (hstep i o _ a w ho hlf h2 hI)
 exact key ops.size _ a w.drew (by simp) (by simp) (by
  have e: (fun i=>(Array.replicate ops.size false).getD i false) =fun _=>false:=by
   funext i
   simp [Array.getD]
  rw [e];exact h0)
def regionOk2 (ops:Array Oper) :Bool:=(List.range ops.size).all fun i=>((ops[i]?).map fun o=>o.guard.isNone && o.after.toList.all (fun e=> !Region.binds .any e || decide (e.on<i))).getD true
theorem regionOk2_at (h:regionOk2 ops=true) {i:Nat} {o:Oper} (ho:ops[i]? = some o) :o.guard=none∧∀e∈o.after.toList,Region.binds .any e=true→e.on<i:=by
 unfold regionOk2 at h
 have h1:=List.all_eq_true.1 h i (List.mem_range.2 (Array.getElem?_eq_some_iff.1 ho).1);rw [ho]at h1;simp only [Option.map_some,Option.getD_some,Bool.and_eq_true]at h1;refine⟨by simpa using h1.1,fun e he hb=> ?_⟩
 have:=List.all_eq_true.1 h1.2 e he;rw [hb]at this
 simpa using this
theorem wp_region_st {id:Nat} {a:Act} {w:World} (hm:P.follows .mixedOrders=true) (hok:regionOk2 ops=true) (n:Nat) (hn:ops.size=n) (mk: (Nat→Value)→Act) (s0:Nat→Value) (ha:a=mk s0)
  (sl:Nat→Nat) (qt:Nat→Bool) (hinj: ∀i j,i<n→j<n→qt i=true→qt j=true→sl i=sl j→i=j) (V:Nat→Value) (ST: (Nat→Bool)→World→Prop) (h0:ST (fun _=>false) w.drew)
  (hstep: ∀(i:Nat) (o:Oper) (s:Nat→Value) (L:Nat→Bool) (x:World),ops[i]? = some o→L i=false→(∀e∈o.after.toList,Region.binds .any e=true→L e.on=true)→
   (∀(j:Nat) (o2:Oper),ops[j]? = some o2→L j=true→∀e∈o2.after.toList,Region.binds .any e=true→L e.on=true)→(∀j,qt j=true→L j=true→s (sl j) =V j)→ST L x→
   o.wp P (mk s) x (fun a' y=>((qt i=true∧a'=mk (fun k=>if k=sl i then V i else s k))∨(qt i=false∧a'=mk s))∧ST (upd L i) y) Q)
  (hend: ∀(s:Nat→Value) (L:Nat→Bool) (x:World),(∀i,i<n→L i=true)→(∀j,j<n→qt j=true→s (sl j) =V j)→ST L x→Q .normal (mk s) x) : (Code.region id ops true).wp P Q a w:=by
 subst hn;refine wp_region_inv2 hm (fun _ _ ho=>(regionOk2_at hok ho).1) (fun _ _ ho=>(regionOk2_at hok ho).2) (fun L a x=>(∀(j:Nat) (o2:Oper),ops[j]? = some o2→L j=true→∀e∈o2.after.toList,Region.binds .any e=true→L e.on=true)∧(∀j,L j=true→j<ops.size)∧
  ∃s,a=mk s∧(∀j,qt j=true→L j=true→s (sl j) =V j)∧ST L x) ⟨fun _ _ _ h=>(by cases h),fun _ h=>(by cases h),s0,ha,fun _ _ h=>(by cases h),h0⟩ ?_ ?_
 ·rintro i o L a x ho hL he ⟨hC,hlo,s,rfl,hv,hst⟩
  have hi:=(Array.getElem?_eq_some_iff.1 ho).1;refine Oper.wp_mono ?_ (hstep i o s L x ho hL he hC hv hst)
  rintro a' y ⟨hq,hy⟩;refine⟨?_,?_,?_⟩
  ·intro j o2 ho2 hj e h1 h2
   have hold:L e.on=true:=by
    by_cases hji:j=i
    ·subst hji;rw [ho]at ho2;injection ho2 with ho2;subst ho2;exact he e h1 h2
    ·unfold upd at hj;rw [if_neg hji]at hj;exact hC j o2 ho2 hj e h1 h2
   unfold upd;split;rfl;exact hold
  ·intro j hj
   by_cases hji:j=i
   ·subst hji;exact hi
   ·unfold upd at hj;rw [if_neg hji]at hj;exact hlo j hj
  ·rcases hq with⟨hqi,rfl⟩ | ⟨hqi,rfl⟩
   ·refine⟨_,rfl,fun j hqj hj=> ?_,hy⟩
    by_cases hji:j=i
    ·subst hji;show(if sl j=sl j then V j else s (sl j)) =V j;rw [if_pos rfl]
    ·unfold upd at hj
     rw [if_neg hji]at hj
     show(if sl j=sl i then V i else s (sl j)) =V j
     rw [if_neg (fun h=>hji (hinj j i (hlo j hj) hi hqj hqi h))]
     exact hv j hqj hj
   ·refine⟨_,rfl,fun j hqj hj=> ?_,hy⟩
    by_cases hji:j=i
    ·subst hji;rw [hqi]at hqj;cases hqj
    ·unfold upd at hj;rw [if_neg hji]at hj;exact hv j hqj hj
 ·rintro L a x hL ⟨_,_,s,rfl,hv,hst⟩
  exact hend s L x hL (fun j hj hq=>hv j hq (hL j hj)) hst
end
end Go
/- A region that draws its order and whose operations only make memory: what is said of each operation's value is said behind all of them. -/
namespace Go
open Go.RowKit
section
variable {P:Program} {ops:Array Oper} {Q:Exit→Act→World→Prop}
theorem opwp_K {o:Oper} {a:Act} {w:World} {K:Act→World→Prop} (h: ∀K':Act→World→Prop,(∀a w,K a w→K' a w)→o.wp P a w K' Q) :o.wp P a w K Q:=h K (fun _ _ h=>h)
end
end Go
/- A region that draws its order, makes memory, and ends in one operation that may be anything. -/
namespace Go
open Go.RowKit
def codeIn:List Nat→Code→Code
 | [],c=>c
 | 0 :: l,.seq x _=>codeIn l x
 | 1 :: l,.seq _ y=>codeIn l y
 | 2 :: l,.cond _ x _=>codeIn l x
 | 3 :: l,.cond _ _ y=>codeIn l y
 | 4 :: l,.block _ x=>codeIn l x
 | 5 :: l,.loop x=>codeIn l x
 | _,c=>c
section
variable {P:Program} {ops:Array Oper} {Q:Exit→Act→World→Prop}
def lastOk (ops:Array Oper) (n:Nat) :Bool:=(List.range n).all fun i=>(List.range (n+1)).any fun j=>decide (i<j) && ((ops[j]?).map fun o=>o.after.toList.any fun e=>(e.on == i) && Region.binds .any e).getD false
theorem lastOk_at {n:Nat} (h:lastOk ops n=true) {i:Nat} (hi:i<n) : ∃j o,i<j∧j≤n∧ops[j]? = some o∧∃e∈o.after.toList,e.on=i∧Region.binds .any e=true:=by
 unfold lastOk at h
 have h1:=List.all_eq_true.1 h i (List.mem_range.2 hi);obtain⟨j,hj,h2⟩:=List.any_eq_true.1 h1;rw [Bool.and_eq_true]at h2;have hjn:=List.mem_range.1 hj
 cases ho:ops[j]? with
 | none=>rw [ho]at h2;cases h2.2
 | some o=>
  rw [ho]at h2;simp only [Option.map_some,Option.getD_some]at h2;obtain⟨e,he,h3⟩:=List.any_eq_true.1 h2.2;rw [Bool.and_eq_true]at h3;exact⟨j,o,of_decide_eq_true h2.1,by omega,ho,e,he,by simpa using h3.1,h3.2⟩
theorem last_all {n:Nat} (h:lastOk ops n=true) (L:Nat→Bool) (hcl: ∀(i:Nat) (o:Oper),ops[i]? = some o→L i=true→∀e∈o.after.toList,Region.binds .any e=true→L e.on=true)
  (hn: ∀(o:Oper),ops[n]? = some o→∀e∈o.after.toList,Region.binds .any e=true→L e.on=true) : ∀i,i<n→L i=true:=by
 have key: ∀(d i:Nat),i+d=n→0<d→L i=true:=by
  intro d
  induction d using Nat.strongRecOn with
  | _ d ih=>
   intro i hid hd;obtain⟨j,o,hij,hjn,ho,e,he,he2,hb⟩:=lastOk_at h (i:=i) (by omega)
   by_cases hj:j=n
   ·subst hj
    have:=hn o ho e he hb
    rwa [he2]at this
   ·have h1:=ih (n - j) (by omega) j (by omega) (by omega)
    have:=hcl j o ho h1 e he hb
    rwa [he2]at this
 exact fun i hi=>key (n - i) i (by omega) (by omega)
end
end Go
/- A region that draws its order: operations in any order that make memory at most, then some that stand one behind another and may do anything. -/
namespace Go
open Go.RowKit
section
variable {P:Program} {ops:Array Oper} {Q:Exit→Act→World→Prop}
def tailWp (P:Program) (Q:Exit→Act→World→Prop) :List Oper→Act→World→Prop
 | [],a,w=>Q .normal a w
 | o :: r,a,w=>o.wp P a w (tailWp P Q r) Q
def onOk (ops:Array Oper) (i j:Nat) :Bool:=((ops[j]?).map fun o=>o.after.toList.any fun e=>(e.on == i) && Region.binds .any e).getD false
theorem onOk_at {i j:Nat} (h:onOk ops i j=true) : ∃o,ops[j]? = some o∧∃e∈o.after.toList,e.on=i∧Region.binds .any e=true:=by
 unfold onOk at h
 cases ho:ops[j]? with
 | none=>rw [ho]at h;cases h
 | some o=>
  rw [ho]at h;simp only [Option.map_some,Option.getD_some]at h;obtain⟨e,he,h3⟩:=List.any_eq_true.1 h;rw [Bool.and_eq_true]at h3;exact⟨o,rfl,e,he,by simpa using h3.1,h3.2⟩
def chainOk (ops:Array Oper) (n:Nat) :Bool:=(List.range (ops.size - n - 1)).all fun j=>onOk ops (n+j) (n+j+1)
theorem wp_region_tail {id:Nat} {a:Act} {w:World} (hm:P.follows .mixedOrders=true) (hok:regionOk2 ops=true) (n:Nat) (hn:n<ops.size) (hall:lastOk ops n=true) (hch:chainOk ops n=true) (mk: (Nat→Value)→Act) (s0:Nat→Value) (ha:a=mk s0)
  (Φ:Nat→Value→World→Prop) (hmono: ∀i v x y,Φ i v x→Below x.heap.size x y→Φ i v y) (sl:Nat→Nat) (hinj: ∀i j,i<n→j<n→sl i=sl j→i=j)
  (hstep: ∀(i:Nat) (o:Oper) (s:Nat→Value) (x:World),i<n→ops[i]? = some o→(∀e∈o.after.toList,Region.binds .any e=true→Φ e.on (s (sl e.on)) x)→Below w.heap.size w x→
   o.wp P (mk s) x (fun a' y=>∃v,a'=mk (fun k=>if k=sl i then v else s k)∧Below x.heap.size x y∧Φ i v y) Q)
  (hlast: ∀(s:Nat→Value) (x:World),(∀i,i<n→Φ i (s (sl i)) x)→Below w.heap.size w x→tailWp P Q (ops.toList.drop n) (mk s) x) : (Code.region id ops true).wp P Q a w:=by
 have hchain: ∀j,n≤j→j+1<ops.size→onOk ops j (j+1) =true:=by
  intro j hj hs;have h:=List.all_eq_true.1 hch (j - n) (List.mem_range.2 (by omega))
  rw [show n+ (j - n) =j by omega]at h
  exact h
 refine wp_region_inv2 hm (fun _ _ ho=>(regionOk2_at hok ho).1) (fun _ _ ho=>(regionOk2_at hok ho).2) (fun L a x=>(∀(i:Nat) (o:Oper),ops[i]? = some o→L i=true→∀e∈o.after.toList,Region.binds .any e=true→L e.on=true)∧(L n=false→∃s,a=mk s∧Below w.heap.size w x∧∀i,i<n→L i=true→Φ i (s (sl i)) x)∧
  (∀m,n≤m→m<ops.size→L m=true→(m+1<ops.size→L (m+1) =false)→tailWp P Q (ops.toList.drop (m+1)) a x)) ⟨fun _ _ _ h=>(by cases h),fun _=>⟨s0,ha,(Below.refl _ _).drew,fun i _ h=>(by cases h)⟩,fun _ _ _ h=>(by cases h)⟩ ?_ ?_
 ·rintro i o L a x ho hL he ⟨hC,hI,hD⟩
  have hi:=(Array.getElem?_eq_some_iff.1 ho).1;have hC2: ∀(j:Nat) (o2:Oper),ops[j]? = some o2→upd L i j=true→∀e∈o2.after.toList,Region.binds .any e=true→upd L i e.on=true:=by
   intro j o2 ho2 hj e h1 h2;have hold:L e.on=true:=by
    by_cases hji:j=i
    ·subst hji;rw [ho]at ho2;injection ho2 with ho2;subst ho2;exact he e h1 h2
    ·unfold upd at hj;rw [if_neg hji]at hj;exact hC j o2 ho2 hj e h1 h2
   unfold upd;split;rfl;exact hold
  have hdown: ∀d,n+d<ops.size→L (n+d) =true→L n=true:=by
   intro d
   induction d with
   | zero=>intro _ h;exact h
   | succ d ih=>
    intro hs h;obtain⟨o2,ho2,e,he2,h3,h4⟩:=onOk_at (hchain (n+d) (by omega) (by omega))
    have:=hC _ o2 ho2 h e he2 h4;rw [h3]at this;exact ih (by omega) this
  have htl: ∀m (o2:Oper),ops[m]? = some o2→ops.toList.drop m=o2 :: ops.toList.drop (m+1):=by
   intro m o2 h2;obtain⟨h3,h4⟩:=Array.getElem?_eq_some_iff.1 h2;rw [List.drop_eq_getElem_cons (by simpa using h3)]
   simp [h4]
  by_cases hin:i<n
  ·have hLn:L n=false:=by
    cases h:L n with
    | false=>rfl
    | true=>
     have:=last_all hall L hC (fun o2 ho2 e h1 h2=>hC n o2 ho2 h e h1 h2) i hin
     rw [this]at hL;cases hL
   obtain⟨s,rfl,hb,hΦ⟩:=hI hLn;refine Oper.wp_mono ?_ (hstep i o s x hin ho (fun e h1 h2=>hΦ _ (Nat.lt_trans ((regionOk2_at hok ho).2 e h1 h2) hin) (he e h1 h2)) hb)
   rintro a' y ⟨v,rfl,hb2,hv⟩;refine⟨hC2,fun _=>⟨_,rfl,hb.trans (hb2.mono hb.size),fun j hj hLj=> ?_⟩,fun m hm1 hm2 hm3=> ?_⟩
   ·by_cases hji:j=i
    ·subst hji
     show Φ j (if sl j=sl j then v else s (sl j)) y
     rw [if_pos rfl];exact hv
    ·show Φ j (if sl j=sl i then v else s (sl j)) y
     rw [if_neg (fun h=>hji (hinj _ _ hj hin h))]
     exact hmono _ _ _ _ (hΦ j hj (by unfold upd at hLj;rwa [if_neg hji]at hLj)) hb2
   ·exfalso
    unfold upd at hm3
    rw [if_neg (by omega)]at hm3
    have h9:=hdown (m - n) (by omega) (by rw [show n+ (m - n) =m by omega];exact hm3)
    rw [hLn]at h9;cases h9
  ·have hT:tailWp P Q (o :: ops.toList.drop (i+1)) a x:=by
    by_cases hie:i=n
    ·subst hie
     obtain⟨s,rfl,hb,hΦ⟩:=hI hL;rw [←htl _ o ho];exact hlast s x (fun j hj=>hΦ j hj (last_all hall L hC (fun o2 ho2=>by rw [ho]at ho2;injection ho2 with ho2;subst ho2;exact he) j hj)) hb
    ·obtain⟨o2,ho2,e,he2,h3,h4⟩:=onOk_at (hchain (i - 1) (by omega) (by omega))
     rw [show i - 1+1=i by omega]at ho2
     rw [ho]at ho2;injection ho2 with ho2;subst ho2;have h5:=he e he2 h4;rw [h3]at h5;have h6:=hD (i - 1) (by omega) (by omega) h5 (fun _=>by rw [show i - 1+1=i by omega];exact hL)
     rw [show i - 1+1=i by omega,htl _ o ho]at h6
     exact h6
   refine Oper.wp_mono ?_ hT
   intro a' y hy;refine⟨hC2,fun h=> ?_,fun m hm1 hm2 hm3 hm4=> ?_⟩
   ·exfalso
    by_cases hie:i=n
    ·subst hie;unfold upd at h;rw [if_pos rfl]at h;cases h
    ·unfold upd at h
     rw [if_neg (by omega)]at h
     obtain⟨o2,ho2,e,he2,h3,h4⟩:=onOk_at (hchain (i - 1) (by omega) (by omega))
     rw [show i - 1+1=i by omega]at ho2
     rw [ho]at ho2;injection ho2 with ho2;subst ho2;have h5:=he e he2 h4;rw [h3]at h5;have h9:=hdown (i - 1 - n) (by omega) (by rw [show n+ (i - 1 - n) =i - 1 by omega];exact h5)
     rw [h]at h9;cases h9
   ·by_cases hmi:m=i
    ·subst hmi;exact hy
    ·exfalso
     unfold upd at hm3
     rw [if_neg hmi]at hm3;have hlt:m<i:=by
      rcases Nat.lt_or_ge m i with h|h
      ·exact h
      ·have key: ∀d,i+d<ops.size→L (i+d) =true→L i=true:=by
        intro d
        induction d with
        | zero=>intro _ h;exact h
        | succ d ih=>
         intro hs h;obtain⟨o2,ho2,e,he2,h3,h4⟩:=onOk_at (hchain (i+d) (by omega) (by omega))
         have:=hC _ o2 ho2 h e he2 h4;rw [h3]at this;exact ih (by omega) this
       have:=key (m - i) (by omega) (by rw [show i+ (m - i) =m by omega];exact hm3)
       rw [hL]at this;cases this
     have h7:=hm4 (by omega)
     have key: ∀d,i - d≥m+1→upd L i (i - d) =true:=by
      intro d
      induction d with
      | zero=>intro _;unfold upd;exact if_pos rfl
      | succ d ih=>
       intro hs;have h8:=ih (by omega)
       obtain⟨o2,ho2,e,he2,h3,h4⟩:=onOk_at (hchain (i - (d+1)) (by omega) (by omega))
       rw [show i - (d+1) +1=i - d by omega]at ho2
       have h9:=hC2 _ o2 ho2 h8 e he2 h4;rw [h3]at h9;exact h9
     have h8:=key (i - (m+1)) (by omega)
     rw [show i - (i - (m+1)) =m+1 by omega,h7]at h8
     cases h8
 ·rintro L a x hL ⟨_,_,hD⟩
  have h:=hD (ops.size - 1) (by omega) (by omega) (hL _ (by omega)) (fun h=>by omega)
  rw [show ops.size - 1+1=ops.size by omega,List.drop_of_length_le (by simp)]at h
  exact h
end
end Go

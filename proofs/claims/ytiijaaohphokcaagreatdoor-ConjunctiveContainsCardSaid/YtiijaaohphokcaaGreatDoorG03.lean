/- Conjunctive queries, plainly: maps between them; cores. -/
import Derived.Test.YtiijaaohphokcaaGreatDoorG01
import Derived.Test.YtiijaaohphokcaaGreatDoorDataK
import Derived.Lib.OthersKept
import Derived.Lib.TrimU
import Derived.Deep.LoopGhost
set_option maxRecDepth 100000
set_option maxHeartbeats 16000000
namespace Go.Proofs.YtiijaaohphokcaaGreatDoor
inductive Tm (K:Type) where
 | v (n:Nat)
 | c (k:K)
section
variable {K:Type}
def Tm.app (h:Nat→Tm K) :Tm K→Tm K
 | .v n=>h n
 | .c k=>.c k
theorem Tm.app_app (g f:Nat→Tm K) (t:Tm K) :Tm.app g (Tm.app f t) =Tm.app (fun x=>Tm.app g (f x)) t:=by cases t<;>rfl
theorem Tm.app_v (t:Tm K) :Tm.app Tm.v t=t:=by cases t<;>rfl
abbrev Lt (K:Type):=Nat×List (Tm K)
def Lt.app (h:Nat→Tm K) (l:Lt K) :Lt K:=(l.1,l.2.map (Tm.app h))
theorem Lt.app_app (g f:Nat→Tm K) (l:Lt K) :Lt.app g (Lt.app f l) =Lt.app (fun x=>Tm.app g (f x)) l:=by
 unfold Lt.app
 rw [List.map_map];exact congrArg _ (List.map_congr_left (fun t _=>Tm.app_app g f t))
theorem Lt.app_v (l:Lt K) :Lt.app Tm.v l=l:=by
 unfold Lt.app
 have:l.2.map (Tm.app Tm.v) =l.2:=by rw [List.map_congr_left (fun t _=>Tm.app_v t)];simp
 rw [this]
structure Cj (K:Type) where
 lits:List (Lt K)
 head:List (Tm K)
def IsHom (h:Nat→Tm K) (q r:Cj K) :Prop:=q.head.map (Tm.app h) =r.head∧∀l∈q.lits,Lt.app h l∈r.lits
def Hom (q r:Cj K) :Prop:=∃h,IsHom h q r
theorem IsHom.comp {g f:Nat→Tm K} {q r s:Cj K} (hf:IsHom f q r) (hg:IsHom g r s) :IsHom (fun x=>Tm.app g (f x)) q s:=by
 refine⟨?_,fun l hl=> ?_⟩
 ·rw [←hg.1,←hf.1,List.map_map]
  exact List.map_congr_left (fun t _=>(Tm.app_app g f t).symm)
 ·rw [←Lt.app_app];exact hg.2 _ (hf.2 l hl)
theorem Hom.trans {q r s:Cj K} (h:Hom q r) (k:Hom r s) :Hom q s:=by
 obtain⟨f,hf⟩:=h;obtain⟨g,hg⟩:=k;exact⟨_,hf.comp hg⟩
theorem Hom.sub {q r:Cj K} (hh:q.head=r.head) (hl: ∀l∈q.lits,l∈r.lits) :Hom q r:=
 ⟨Tm.v,by rw [List.map_congr_left (fun t _=>Tm.app_v t)];simpa using hh,fun l h=>by rw [Lt.app_v];exact hl l h⟩
theorem Hom.refl (q:Cj K) :Hom q q:=Hom.sub rfl (fun _ h=>h)
def Occ (q:Cj K) (x:Nat) :Prop:=∃l∈q.lits,Tm.v x∈l.2
def Cov (q:Cj K) :Prop:=(∀x,Tm.v x∈q.head→Occ q x)∧0<q.lits.length
def Cj.del (q:Cj K) (i:Nat) :Cj K:=⟨q.lits.eraseIdx i,q.head⟩
def Rem (q:Cj K) (i:Nat) :Prop:=Cov (q.del i)∧Hom q (q.del i)
theorem del_sub {q:Cj K} {i:Nat} : ∀l∈(q.del i).lits,l∈q.lits:=fun l h=>List.mem_of_mem_eraseIdx h
theorem Cov.sub {q r:Cj K} (h:Cov q) (hh:q.head=r.head) (hl: ∀l∈q.lits,l∈r.lits) :Cov r:=by
 refine⟨fun x hx=> ?_,?_⟩
 ·obtain⟨l,h1,h2⟩:=h.1 x (hh▸hx)
  exact⟨l,hl l h1,h2⟩
 ·cases hq:q.lits with
  | nil=>have:=h.2;rw [hq]at this;cases this
  | cons a l=>exact List.length_pos_of_mem (hl a (by rw [hq];simp))
open Classical in
noncomputable def coreL:Nat→Cj K→Nat→Cj K
 | 0,q,_=>q
 | n+1,q,i=>if i<q.lits.length then (if Rem q i then coreL n (q.del i) i else coreL n q (i+1)) else q
theorem del_len {q:Cj K} {i:Nat} (h:i<q.lits.length) : (q.del i).lits.length=q.lits.length - 1:=List.length_eraseIdx_of_lt h
structure CoreOf (q r:Cj K) :Prop where
 head:r.head=q.head
 sub: ∀l∈r.lits,l∈q.lits
 hom:Hom q r
 le:r.lits.length≤q.lits.length
 cov:Cov r
theorem del_del {q:Cj K} {i j:Nat} (hji:j<i) : ∀l∈((q.del i).del j).lits,l∈(q.del j).lits:=by
 intro l hl
 unfold Cj.del at hl ⊢
 dsimp only at hl ⊢
 rw [List.mem_eraseIdx_iff_getElem?]at hl ⊢;obtain⟨k,hk,he⟩:=hl;rw [List.getElem?_eraseIdx]at he
 split at he
 ·exact⟨k,hk,he⟩
 ·exact⟨k+1,by omega,he⟩
theorem rem_mono {q:Cj K} {i j:Nat} (hji:j<i) (hi:Rem q i) (hj:Rem (q.del i) j) :Rem q j:=
 ⟨hj.1.sub rfl (del_del hji),(hi.2.trans hj.2).trans (Hom.sub rfl (del_del hji))⟩
theorem coreL_ok: ∀(n:Nat) (q:Cj K) (i:Nat),q.lits.length≤i+n→Cov q→(∀j,j<i→¬Rem q j)→CoreOf q (coreL n q i)∧∀j,j< (coreL n q i).lits.length→¬Rem (coreL n q i) j
 | 0,q,i,hn,hc,hj=>⟨⟨rfl,fun _ h=>h,Hom.refl q,Nat.le_refl _,hc⟩,fun j h=>hj j (by have:j<q.lits.length:=h;omega)⟩
 | n+1,q,i,hn,hc,hj=>by
  unfold coreL
  by_cases hi:i<q.lits.length
  ·rw [if_pos hi]
   by_cases hr:Rem q i
   ·rw [if_pos hr]
    obtain⟨h1,h2⟩:=coreL_ok n (q.del i) i (by rw [del_len hi];omega) hr.1 (fun j h hk=>hj j h (rem_mono h hr hk))
    exact⟨⟨h1.head,fun l h=>del_sub l (h1.sub l h),hr.2.trans h1.hom,by have:=h1.le;rw [del_len hi]at this;omega,h1.cov⟩,h2⟩
   ·rw [if_neg hr]
    refine coreL_ok n q (i+1) (by omega) hc (fun j h=> ?_)
    by_cases e:j=i
    ·rw [e];exact hr
    ·exact hj j (by omega)
  ·rw [if_neg hi]
   exact⟨⟨rfl,fun _ h=>h,Hom.refl q,Nat.le_refl _,hc⟩,fun j h=>hj j (by omega)⟩
end
theorem php: ∀(n:Nat) (f:Nat→Nat),(∀k,k≤n→f k<n)→∃a b,a<b∧b≤n∧f a=f b
 | 0,f,h=>absurd (h 0 (Nat.le_refl _)) (by omega)
 | n+1,f,h=>by
  by_cases hx: ∃a,a≤n∧f a=f (n+1)
  ·obtain⟨a,h1,h2⟩:=hx
   exact⟨a,n+1,by omega,Nat.le_refl _,h2⟩
  ·have hne: ∀a,a≤n→f a≠f (n+1):=fun a h1 h2=>hx ⟨a,h1,h2⟩
   have hv:=h (n+1) (Nat.le_refl _);obtain⟨a,b,h1,h2,h3⟩:=php n (fun k=>if f (n+1) <f k then f k - 1 else f k) (fun k hk=>by
    have h4:=h k (by omega)
    have h5:=hne k hk
    show(if f (n+1) <f k then f k - 1 else f k) <n
    split<;>omega)
   refine⟨a,b,h1,by omega,?_⟩
   have h3: (if f (n+1) <f a then f a - 1 else f a) = (if f (n+1) <f b then f b - 1 else f b):=h3
   have h4:=hne a (by omega)
   have h5:=hne b (by omega)
   split at h3<;>split at h3<;>omega
def iter (f:Nat→Nat) :Nat→Nat→Nat
 | 0,x=>x
 | n+1,x=>f (iter f n x)
section
variable {K:Type}
structure IsEmb (h:Nat→Tm K) (q r:Cj K) :Prop where
 head:q.head.map (Tm.app h) =r.head
 lits: ∃c:Nat→Nat,(∀(i:Nat) (l:Lt K),q.lits[i]? = some l→r.lits[c i]? = some (Lt.app h l))∧∀i j,i<q.lits.length→j<q.lits.length→c i=c j→i=j
 vars: ∀x,Occ q x→∃y,h x = .v y
 inj: ∀x y,Occ q x→Occ q y→h x=h y→x=y
theorem hom_ix {h:Nat→Tm K} {q r:Cj K} (hh:IsHom h q r) : ∃c:Nat→Nat,∀(i:Nat) (l:Lt K),q.lits[i]? = some l→r.lits[c i]? = some (Lt.app h l):=by
 have: ∀i:Nat,∃j:Nat,∀l:Lt K,q.lits[i]? = some l→r.lits[j]? = some (Lt.app h l):=by
  intro i
  cases hq:q.lits[i]? with
  | none=>exact⟨0,fun l h=>by cases h⟩
  | some l0=>
   obtain⟨j,hj,he⟩:=List.getElem_of_mem (hh.2 l0 (List.mem_of_getElem? hq));exact⟨j,fun l hl=>by injection hl with hl;subst hl;rw [List.getElem?_eq_getElem hj,he]⟩
 exact⟨fun i=>Classical.choose (this i),fun i=>Classical.choose_spec (this i)⟩
theorem lt_of_some {α:Type} {l:List α} {i:Nat} {x:α} (h:l[i]? = some x) :i<l.length:=(List.getElem?_eq_some_iff.1 h).1
def homPow (e:Nat→Tm K) :Nat→Nat→Tm K
 | 0,x=>.v x
 | n+1,x=>Tm.app e (homPow e n x)
end
end Go.Proofs.YtiijaaohphokcaaGreatDoor
/- Conjunctive queries: the search for a map, plainly. -/
namespace Go.Proofs.YtiijaaohphokcaaGreatDoor
section
variable {K:Type}
abbrev Sb (K:Type):=Nat→Option (Tm K)
def Sb.bind (σ:Sb K) (x:Nat) (t:Tm K) :Sb K:=fun y=>if y=x then some t else σ y
def Ext (h:Nat→Tm K) (σ:Sb K) :Prop:=∀x t,σ x=some t→h x=t
def InjOn (h:Nat→Tm K) (D:Nat→Prop) :Prop:=(∀x,D x→∃y,h x = .v y)∧∀x y,D x→D y→h x=h y→x=y
theorem InjOn.mono {h:Nat→Tm K} {D D':Nat→Prop} (hd:InjOn h D) (hs: ∀x,D' x→D x) :InjOn h D':=⟨fun x hx=>hd.1 x (hs x hx),fun x y hx hy e=>hd.2 x y (hs x hx) (hs y hy) e⟩
def SbOk (single:Bool) (σ:Sb K) :Prop:=single=true→(∀x t,σ x=some t→∃y,t = .v y)∧∀x y t,σ x=some t→σ y=some t→x=y
structure Became (single:Bool) (σ:Sb K) (l k:List (Tm K)) (σ':Sb K) :Prop where
 len:l.length=k.length
 keep: ∀x t,σ x=some t→σ' x=some t
 fit: ∀h,Ext h σ'→l.map (Tm.app h) =k
 dom: ∀x t,σ' x=some t→σ x=some t∨(σ x=none∧Tm.v x∈l)
 has: ∀x,Tm.v x∈l→∃t,σ' x=some t
 min: ∀h,Ext h σ→l.map (Tm.app h) =k→Ext h σ'
 ok:SbOk single σ→SbOk single σ'
def Bars (single:Bool) (σ:Sb K) (l k:List (Tm K)) :Prop:=∀h,Ext h σ→l.map (Tm.app h) =k→(single=true→InjOn h (fun x=>σ x≠none∨Tm.v x∈l))→False
theorem Became.nil (single:Bool) (σ:Sb K) :Became single σ [] [] σ:=⟨rfl,fun _ _ h=>h,fun _ _=>rfl,fun _ _ h=>.inl h,fun _ h=>(by cases h),fun _ h _=>h,fun h=>h⟩
theorem map_take {α β:Type} {f:α→β} {l:List α} {k:List β} (h:l.map f=k) (i:Nat) : (l.take i).map f=k.take i:=by rw [←h,List.map_take]
theorem map_at {α β:Type} {f:α→β} {l:List α} {k:List β} (h:l.map f=k) {i:Nat} {a:α} (ha:l[i]? = some a) :k[i]? = some (f a):=by rw [←h,List.getElem?_map,ha];rfl
theorem take_snoc' {α:Type} {l:List α} {i:Nat} {a:α} (h:l[i]? = some a) :l.take (i+1) =l.take i ++ [a]:=by
 obtain⟨h1,h2⟩:=List.getElem?_eq_some_iff.1 h;rw [List.take_succ_eq_append_getElem h1,h2]
theorem Became.same {single:Bool} {σ σ':Sb K} {l k:List (Tm K)} {i:Nat} {a b:Tm K} (h:Became single σ (l.take i) (k.take i) σ') (ha:l[i]? = some a) (hb:k[i]? = some b)
  (hv: ∀x,a = .v x→σ' x=some b) (hc: ∀c,a = .c c→b = .c c) :Became single σ (l.take (i+1)) (k.take (i+1)) σ':=by
 have hab: ∀f,Ext f σ'→Tm.app f a=b:=by
  intro f hf
  cases a with
  | v x=>exact hf x b (hv x rfl)
  | c c=>exact(hc c rfl).symm
 rw [take_snoc' ha,take_snoc' hb];refine⟨by simp [h.len],h.keep,fun f hf=>by rw [List.map_append,h.fit f hf];simp [hab f hf],fun x t hx=>(h.dom x t hx).imp id (fun⟨p,q⟩=>⟨p,List.mem_append_left _ q⟩),fun x hx=> ?_,fun f hf hm=> ?_,h.ok⟩
 ·rcases List.mem_append.1 hx with hx|hx
  ·exact h.has x hx
  ·exact⟨b,hv x (List.mem_singleton.1 hx).symm⟩
 ·rw [List.map_append]at hm
  have:=(List.append_inj' hm (by simp)).1
  exact h.min f hf this
theorem Became.bind {single:Bool} {σ σ':Sb K} {l k:List (Tm K)} {i x:Nat} {b:Tm K} (h:Became single σ (l.take i) (k.take i) σ') (ha:l[i]? = some (.v x)) (hb:k[i]? = some b)
  (hx:σ' x=none) (hs:single=true→(∃y,b = .v y)∧∀y,σ' y≠some b) :Became single σ (l.take (i+1)) (k.take (i+1)) (σ'.bind x b):=by
 have hk: ∀y t,σ' y=some t→(σ'.bind x b) y=some t:=by
  intro y t hy
  unfold Sb.bind
  by_cases e:y=x
  ·subst e;rw [hx]at hy;cases hy
  ·rw [if_neg e];exact hy
 have hxx: (σ'.bind x b) x=some b:=if_pos rfl;have hext: ∀f,Ext f (σ'.bind x b)→Ext f σ':=fun f hf y t hy=>hf y t (hk y t hy)
 have hx0:σ x=none:=by
  cases e:σ x with
  | none=>rfl
  | some t=>have:=h.keep x t e;rw [hx]at this;cases this
 rw [take_snoc' ha,take_snoc' hb];refine⟨by simp [h.len],fun y t hy=>hk y t (h.keep y t hy),fun f hf=> ?_,fun y t hy=> ?_,fun y hy=> ?_,fun f hf hm=> ?_,fun ho=> ?_⟩
 ·rw [List.map_append,h.fit f (hext f hf)]
  have:Tm.app f (.v x) =b:=hf x b hxx;simp [this]
 ·by_cases e:y=x
  ·subst e;exact .inr ⟨hx0,by simp⟩
  ·have:σ' y=some t:=by unfold Sb.bind at hy;rwa [if_neg e]at hy
   exact(h.dom y t this).imp id (fun⟨p,q⟩=>⟨p,List.mem_append_left _ q⟩)
 ·rcases List.mem_append.1 hy with hy|hy
  ·obtain⟨t,ht⟩:=h.has y hy
   exact⟨t,hk y t ht⟩
  ·have e:=List.mem_singleton.1 hy
   injection e with e;subst e;exact⟨b,hxx⟩
 ·rw [List.map_append]at hm
  obtain⟨h1,h2⟩:=List.append_inj' hm (by simp)
  have h3:=h.min f hf h1;intro y t hy;by_cases e:y=x
  ·subst e
   rw [hxx]at hy;injection hy with hy;subst hy;injection h2
  ·unfold Sb.bind at hy;rw [if_neg e]at hy;exact h3 y t hy
 ·intro hsg
  obtain⟨o1,o2⟩:=h.ok ho hsg;obtain⟨s1,s2⟩:=hs hsg;have hcase: ∀y t,(σ'.bind x b) y=some t→(y=x∧t=b)∨(y≠x∧σ' y=some t):=by
   intro y t hy;by_cases e:y=x
   ·subst e;rw [hxx]at hy;injection hy with hy;exact .inl ⟨rfl,hy.symm⟩
   ·unfold Sb.bind at hy;rw [if_neg e]at hy;exact .inr ⟨e,hy⟩
  refine⟨fun y t hy=> ?_,fun y z t hy hz=> ?_⟩
  ·rcases hcase y t hy with⟨_,rfl⟩ | ⟨_,h1⟩
   ·exact s1
   ·exact o1 y t h1
  ·rcases hcase y t hy with⟨rfl,rfl⟩ | ⟨n1,h1⟩<;>rcases hcase z t hz with⟨rfl,h2⟩ | ⟨n2,h2⟩
   ·rfl
   ·exact absurd h2 (s2 z)
   ·subst h2;exact absurd h1 (s2 y)
   ·exact o2 y z t h1 h2
theorem Became.bars {single:Bool} {σ σ':Sb K} {l k:List (Tm K)} {i:Nat} {a b:Tm K} (h:Became single σ (l.take i) (k.take i) σ') (ha:l[i]? = some a) (hb:k[i]? = some b)
  (hno: ∀f,Ext f σ'→Tm.app f a=b→(single=true→InjOn f (fun x=>σ x≠none∨Tm.v x∈l))→False) :Bars single σ l k:=by
 intro f hf hm hi;have h1:=h.min f hf (map_take hm i);have h2:=map_at hm ha;rw [hb]at h2;injection h2 with h2;exact hno f h1 h2.symm hi
theorem bars_len {single:Bool} {σ:Sb K} {l k:List (Tm K)} (h:l.length≠k.length) :Bars single σ l k:=fun f _ hm _=>h (by rw [←hm,List.length_map])
def Fits (single:Bool) (to:List (Lt K)) (σ:Sb K) (used:Nat→Bool) (rem:List (Lt K)) :Prop:=
 ∃(h:Nat→Tm K) (c:Nat→Nat),Ext h σ∧(∀(i:Nat) (l:Lt K),rem[i]? = some l→to[c i]? = some (Lt.app h l))∧
  (single=true→(∀i,i<rem.length→used (c i) =false)∧(∀i j,i<rem.length→j<rem.length→c i=c j→i=j)∧InjOn h (fun x=>σ x≠none∨∃l∈rem,Tm.v x∈l.2))
theorem fits_nil {single:Bool} {to:List (Lt K)} {σ:Sb K} {used:Nat→Bool} (h:SbOk single σ) :Fits single to σ used []:=by
 refine⟨fun x=>(σ x).getD (.v x),fun _=>0,fun x t hx=>by show(σ x).getD _=t;rw [hx];rfl,fun i l hl=>(by cases hl),fun hs=>⟨fun i hi=>(by cases hi),fun i j hi=>(by cases hi),fun x hx=> ?_,fun x y hx hy e=> ?_⟩⟩
 ·rcases hx with hx| ⟨l,hl,_⟩
  ·cases hsx:σ x with
   | none=>exact absurd hsx hx
   | some t=>obtain⟨y,hy⟩:=(h hs).1 x t hsx;exact⟨y,by show(σ x).getD _=_;rw [hsx];exact hy⟩
  ·cases hl
 ·rcases hx with hx| ⟨l,hl,_⟩
  ·rcases hy with hy| ⟨l,hl,_⟩
   ·cases hsx:σ x with
    | none=>exact absurd hsx hx
    | some t=>
     cases hsy:σ y with
     | none=>exact absurd hsy hy
     | some s=>
      have e: (σ x).getD (.v x) = (σ y).getD (.v y):=e;rw [hsx,hsy]at e;have e:t=s:=e;subst e;exact(h hs).2 x y t hsx hsy
   ·cases hl
  ·cases hl
theorem fits_cons {single:Bool} {to:List (Lt K)} {σ σ':Sb K} {used:Nat→Bool} {a:Lt K} {rem:List (Lt K)} {k:Nat} {b:Lt K} (hb:to[k]? = some b) (ht:a.1=b.1) (hu:single=true→used k=false) (hB:Became single σ a.2 b.2 σ')
  (h:Fits single to σ' (fun j=>if j=k then true else used j) rem) :Fits single to σ used (a :: rem):=by
 obtain⟨f,c,h1,h2,h3⟩:=h;refine⟨f,fun i=>match i with|0=>k|i+1=>c i,fun x t hx=>h1 x t (hB.keep x t hx),fun i l hl=> ?_,fun hs=> ?_⟩
 ·cases i with
  | zero=>
   injection hl with hl;subst hl
   show to[k]? = _
   rw [hb]
   congr 1
   exact Prod.ext ht.symm (hB.fit f h1).symm
  | succ i=>exact h2 i l hl
 ·obtain⟨g1,g2,g3⟩:=h3 hs
  have hck: ∀i,i<rem.length→c i≠k:=by
   intro i hi e;have this: (if c i=k then true else used (c i)) =false:=g1 i hi
   rw [if_pos e]at this
   cases this
  refine⟨fun i hi=> ?_,fun i j hi hj e=> ?_,?_⟩
  ·cases i with
   | zero=>exact hu hs
   | succ i=>
    have hi2:i<rem.length:=by simpa using hi
    have this: (if c i=k then true else used (c i)) =false:=g1 i hi2
    rwa [if_neg (hck i hi2)]at this
  ·cases i with
   | zero=>
    cases j with
    | zero=>rfl
    | succ j=>exact absurd e.symm (hck j (by simpa using hj))
   | succ i=>
    cases j with
    | zero=>exact absurd e (hck i (by simpa using hi))
    | succ j=>exact congrArg (· + 1) (g2 i j (by simpa using hi) (by simpa using hj) e)
  ·refine g3.mono (fun x hx=> ?_)
   rcases hx with hx| ⟨l,hl,hm⟩
   ·left
    cases hsx:σ x with
    | none=>exact absurd hsx hx
    | some t=>rw [hB.keep x t hsx];simp
   ·rcases List.mem_cons.1 hl with rfl|hl
    ·left
     obtain⟨t,ht⟩:=hB.has x hm;rw [ht];simp
    ·exact .inr ⟨l,hl,hm⟩
theorem fits_none {single:Bool} {to:List (Lt K)} {σ:Sb K} {used:Nat→Bool} {a:Lt K} {rem:List (Lt K)}
  (h: ∀(k:Nat) (b:Lt K),to[k]? = some b→(a.1≠b.1∨(single=true∧used k=true))∨Bars single σ a.2 b.2∨∃σ',Became single σ a.2 b.2 σ'∧¬Fits single to σ' (fun j=>if j=k then true else used j) rem) : ¬Fits single to σ used (a :: rem):=by
 rintro ⟨f,c,h1,h2,h3⟩;have hb:=h2 0 a rfl;have hinj:single=true→InjOn f (fun x=>σ x≠none∨Tm.v x∈a.2):=fun hs=>(h3 hs).2.2.mono (fun x hx=>hx.imp id (fun hm=>⟨a,by simp,hm⟩))
 rcases h (c 0) _ hb with(hne| ⟨hs,hu⟩) |hbar| ⟨σ',hB,hno⟩
 ·exact hne rfl
 ·have:=(h3 hs).1 0 (by simp)
  rw [hu]at this;cases this
 ·exact hbar f h1 rfl hinj
 ·refine hno ⟨f,fun i=>c (i+1),hB.min f h1 rfl,fun i l hl=>h2 (i+1) l hl,fun hs=> ?_⟩
  obtain⟨g1,g2,g3⟩:=h3 hs;refine⟨fun i hi=> ?_,fun i j hi hj e=> ?_,?_⟩
  ·have hne:c (i+1)≠c 0:=fun e=>by have:=g2 (i+1) 0 (by simpa using hi) (by simp) e;omega
   show(if c (i+1) =c 0 then true else used (c (i+1))) =false
   rw [if_neg hne];exact g1 (i+1) (by simpa using hi)
  ·have:=g2 (i+1) (j+1) (by simpa using hi) (by simpa using hj) e;omega
  ·refine g3.mono (fun x hx=> ?_)
   rcases hx with hx| ⟨l,hl,hm⟩
   ·cases hsx:σ' x with
    | none=>exact absurd hsx hx
    | some t=>
     rcases hB.dom x t hsx with h5| ⟨_,h5⟩
     ·left;rw [h5];simp
     ·exact .inr ⟨a,by simp,h5⟩
   ·exact .inr ⟨l,List.mem_cons_of_mem _ hl,hm⟩
def sb0:Sb K:=fun _=>none
theorem ext0 (h:Nat→Tm K) :Ext h sb0:=fun _ _ e=>by cases e
theorem fits_hom {q r:Cj K} {σ:Sb K} (hB:Became false sb0 q.head r.head σ) {used:Nat→Bool} : Fits false r.lits σ used q.lits↔Hom q r:=by
 constructor
 ·rintro ⟨h,c,h1,h2,_⟩
  refine⟨h,hB.fit h h1,fun l hl=> ?_⟩
  obtain⟨i,hi,rfl⟩:=List.getElem_of_mem hl;exact List.mem_of_getElem? (h2 i _ (List.getElem?_eq_getElem hi))
 ·rintro ⟨h,h1,h2⟩
  obtain⟨c,hc⟩:=hom_ix ⟨h1,h2⟩;exact⟨h,c,hB.min h (ext0 h) h1,hc,fun e=>by cases e⟩
theorem bars_hom {q r:Cj K} (hB:Bars false sb0 q.head r.head) : ¬Hom q r:=by
 rintro ⟨h,h1,_⟩;exact hB h (ext0 h) h1 (fun e=>by cases e)
theorem fits_emb {q r:Cj K} {σ:Sb K} (hB:Became true sb0 q.head r.head σ) {used:Nat→Bool} (hu: ∀i,used i=false) (hc: ∀x,Tm.v x∈q.head→Occ q x) :Fits true r.lits σ used q.lits↔∃h,IsEmb h q r:=by
 have hdom: ∀x,(σ x≠none∨∃l∈q.lits,Tm.v x∈l.2)↔Occ q x:=by
  intro x
  constructor
  ·rintro (hx|hx)
   ·cases hsx:σ x with
    | none=>exact absurd hsx hx
    | some t=>
     rcases hB.dom x t hsx with h5| ⟨_,h5⟩
     ·cases h5
     ·exact hc x h5
   ·exact hx
  ·exact fun hx=>.inr hx
 constructor
 ·rintro ⟨h,c,h1,h2,h3⟩
  obtain⟨_,g2,g3⟩:=h3 rfl;exact⟨h,hB.fit h h1,⟨c,h2,g2⟩,fun x hx=>g3.1 x ((hdom x).2 hx),fun x y hx hy=>g3.2 x y ((hdom x).2 hx) ((hdom y).2 hy)⟩
 ·rintro ⟨h,hh⟩
  obtain⟨c,h2,h3⟩:=hh.lits;exact⟨h,c,hB.min h (ext0 h) hh.head,h2,fun _=>⟨fun i _=>hu _,h3,fun x hx=>hh.vars x ((hdom x).1 hx),fun x y hx hy=>hh.inj x y ((hdom x).1 hx) ((hdom y).1 hy)⟩⟩
theorem bars_emb {q r:Cj K} (hc: ∀x,Tm.v x∈q.head→Occ q x) (hB:Bars true sb0 q.head r.head) : ¬∃h,IsEmb h q r:=by
 rintro ⟨h,hh⟩;refine hB h (ext0 h) hh.head (fun _=>⟨fun x hx=>hh.vars x ?_,fun x y hx hy=>hh.inj x y ?_ ?_⟩)
 ·exact hc x (hx.resolve_left (fun e=>e rfl))
 ·exact hc x (hx.resolve_left (fun e=>e rfl))
 ·exact hc y (hy.resolve_left (fun e=>e rfl))
theorem sbok0 (single:Bool) :SbOk single (sb0:Sb K):=fun _=>⟨fun _ _ h=>(by cases h),fun _ _ _ h=>(by cases h)⟩
end
end Go.Proofs.YtiijaaohphokcaaGreatDoor
/- value.text, value.Valid, ref01.Valid: which texts and values are permitted. -/
namespace Go.Proofs.YtiijaaohphokcaaGreatDoor
open Go.RowKit
def goodN (b:Nat) :Bool:=decide (32≤b∧b≤126∧b≠39)
def TxtAll (s:ByteArray) :Prop:=∀j (h:j<s.size),goodN (s[j]'h).toNat=true
def TxtOk (s:ByteArray) :Prop:=s.size≤24∧TxtAll s
open Classical in
noncomputable def txt (s:ByteArray) :Bool:=decide (TxtOk s)
open Classical in
theorem txt_yes {s:ByteArray} (h:TxtOk s) :txt s=true:=by unfold txt;exact decide_eq_true h
open Classical in
theorem txt_no {s:ByteArray} (h: ¬TxtOk s) :txt s=false:=by unfold txt;exact decide_eq_false h
theorem goodN_low (n b0 b1 b2 b3:Nat) :goodN (Lib.decodeN n b0 b1 b2 b3).1=goodN b0∧(goodN b0=true→(Lib.decodeN n b0 b1 b2 b3).2=1):=by
 by_cases h:b0<128
 ·simp [Lib.decodeN,h]
 ·have hb:goodN b0=false:=by unfold goodN;exact decide_eq_false (by omega)
  have hr:128≤(Lib.decodeN n b0 b1 b2 b3).1:=by
   unfold Lib.decodeN
   rw [if_neg h]
   repeat' split
   all_goals first|omega| (show 128≤65533;omega) | (simp only;omega)
  refine⟨?_,fun h'=>by rw [hb]at h';cases h'⟩
  rw [hb];unfold goodN;exact decide_eq_false (by omega)
theorem dec_good (s:ByteArray) (pos:Nat) (h:pos<s.size) :goodN (Utf8.decode s pos).1=goodN (s[pos]'h).toNat∧(goodN (s[pos]'h).toNat=true→(Utf8.decode s pos).2=1):=by
 have hg:s.get! pos=s[pos]'h:=by
  show s.data[pos]! = s.data[pos]'h
  exact getElem!_pos s.data pos h
 rw [Lib.decode_at,hg];exact goodN_low _ _ _ _ _
theorem txclo_any (r:Nat) (hr:r≤1114111) (w:World) :
  Calls Tryz.prog 168 #[.int .i32 (r:Int)] w fun e w'=>e = .returned (.bool (!goodN r))∧Below w.heap.size w w':=by
 by_cases h1:r<32
 ·have h1': (r:Int) <32:=by omega
  have HG:=ai (show goodN r=false by unfold goodN;exact decide_eq_false (by omega))
  go_enter Tryz.func168,Tryz.ntmps168;go_wp2;go_ret
  exact⟨by rw [HG.o];rfl,Below.refl _ _⟩
 ·have h1': ¬(r:Int) <32:=by omega
  by_cases h2:126<r
  ·have h2':126< (r:Int):=by omega
   have HG:=ai (show goodN r=false by unfold goodN;exact decide_eq_false (by omega))
   go_enter Tryz.func168,Tryz.ntmps168;go_wp2;go_ret
   exact⟨by rw [HG.o];rfl,Below.refl _ _⟩
  ·have h2': ¬126< (r:Int):=by omega
   by_cases h3:r=39
   ·subst h3
    go_enter Tryz.func168,Tryz.ntmps168;go_wp2;go_ret
    exact⟨rfl,Below.refl _ _⟩
   ·have h3': ((r:Int) == 39) =false:=by simp;omega
    have HG:=ai (show goodN r=true by unfold goodN;exact decide_eq_true (by omega))
    go_enter Tryz.func168,Tryz.ntmps168;go_wp2;go_ret
    exact⟨by rw [HG.o];rfl,Below.refl _ _⟩
theorem tindex_txt (s:ByteArray) (w:World) (hs:s.size≤24) :
  Calls Tryz.prog 190 #[.string s,.func (.func 168) #[] #[],.bool true] w fun e w'=>(∃i:Int,e = .returned (.int .i64 i)∧((0≤i∧¬TxtAll s)∨(i = -1∧TxtAll s)))∧Below w.heap.size w w':=by
 go_enter Tryz.func190,Tryz.ntmps190;go_wp2
 go_loopg [] s.size (fun g wx=>∃pos:Nat,wx.heap[w.heap.size]? = some (.stringIter s pos)∧Below w.heap.size w wx∧Hid (∀j (h:j<s.size),j<pos→goodN (s[j]'h).toNat=true)∧pos≤s.size∧s.size≤pos+g)
 case atStart=>exact⟨0,World.iter_heap w s 0,(Below.refl _ w).alloc (Nat.le_refl _) _,fun j _ h=>absurd h (by omega),by omega,by omega⟩
 case round=>
  obtain⟨pos,hit,hbw,HG,hps,hfu⟩:=hrel;have hsz:w.heap.size<wr.heap.size:=(Array.getElem?_eq_some_iff.1 hit).1;by_cases hp:pos<s.size
  ·obtain⟨g,rfl⟩ : ∃g,gk=g+1:=⟨gk - 1,by omega⟩
   have hnx: ∀ty,(Instr.next (.pointer (some ⟨w.heap.size,0,none⟩)) true ty).run Tryz.prog wr=_:=fun ty=>Lib.run_next_any_at wr w.heap.size s pos ty hit hp
   have hr1:=Lib.rune_le s pos;have HD:=ai (dec_good s pos hp);have HP:=ai hp;obtain⟨R,hR⟩ : ∃R,(Utf8.decode s pos).1=R:=⟨_,rfl⟩;obtain⟨K,hK⟩ : ∃K,(Utf8.decode s pos).2=K:=⟨_,rfl⟩;rw [hR,hK]at hnx;rw [hR]at hr1;rw [hR,hK]at HD;have hit2:=Lib.iterAt_heap wr w.heap.size s pos (pos+K) hit;have hbw2:=Lib.below_iterAt hbw (k:=w.heap.size) (Nat.le_refl _) s (pos+K)
   obtain⟨W,hWd⟩ : ∃W,wr.iterAt w.heap.size s (pos+K) =W:=⟨_,rfl⟩;rw [hWd]at hnx hit2 hbw2;have hWs:w.heap.size<W.heap.size:=(Array.getElem?_eq_some_iff.1 hit2).1;have HC:=ai (txclo_any R hr1 W)
   cases hgd:goodN R with
   | true=>
    rw [hgd]at HC;go_wp2_with (go_at_call 168;refine HC.o.mono ?_;rintro e W' ⟨rfl,hb⟩)
    have HB:=ai hb;have hk1:K=1:=HD.o.2 (HD.o.1▸hgd)
    go_roundg g
    case measure=>omega
    case rel=>
     refine⟨pos+K,(HB.o.block w.heap.size hWs).trans hit2,hbw2.trans (HB.o.mono (by omega)),fun j hj h=> ?_,by omega,by omega⟩
     by_cases e:j=pos
     ·subst e;rw [←HD.o.1];exact hgd
     ·exact HG.o j hj (by omega)
   | false=>
    rw [hgd]at HC;go_wp2_with (go_at_call 168;refine HC.o.mono ?_;rintro e W' ⟨rfl,hb⟩)
    go_ret
    refine⟨⟨pos,rfl,.inl ⟨by omega,fun h=> ?_⟩⟩,hbw2.trans (hb.mono (by omega))⟩
    have:=h pos HP.o;rw [←HD.o.1,hgd]at this
    cases this
  ·have hnx: ∀ty,(Instr.next (.pointer (some ⟨w.heap.size,0,none⟩)) true ty).run Tryz.prog wr=_:=fun ty=>Lib.run_next_end_at wr w.heap.size s pos ty hit hp
   go_wp2;go_ret
   exact⟨⟨-1,rfl,.inr ⟨rfl,fun j hj=>HG.o j hj (by omega)⟩⟩,hbw⟩
theorem ifunc_txt (s:ByteArray) (w:World) (hs:s.size≤24) :
  Calls Tryz.prog 167 #[.string s,.func (.func 168) #[] #[]] w fun e w'=>(∃i:Int,e = .returned (.int .i64 i)∧((0≤i∧¬TxtAll s)∨(i = -1∧TxtAll s)))∧Below w.heap.size w w':=by
 go_enter Tryz.func167,Tryz.ntmps167;go_wp2_with (go_at_call 190;refine(tindex_txt s _ hs).mono ?_;rintro e w1 ⟨⟨i,rfl,hi⟩,hb⟩;have HI:=ai hi;clear hi)
 go_ret
 exact⟨⟨i,rfl,HI.o⟩,hb⟩
theorem text_any (s:ByteArray) (w:World) (hs:s.size≤maxLen) :
  Calls Tryz.prog 129 #[.string s] w fun e w'=>e = .returned (.bool (txt s))∧Below w.heap.size w w':=by
 unfold maxLen at hs
 by_cases h24:s.size≤24
 ·have h24': (s.size:Int)≤24:=by omega
  go_enter Tryz.func129,Tryz.ntmps129;go_wp2_with (go_at_call 167;refine(ifunc_txt s _ h24).mono ?_;rintro e w1 ⟨⟨i,rfl,hi⟩,hb⟩;have HI:=ai hi;clear hi)
  go_ret
  refine⟨?_,hb⟩
  rcases HI.o with⟨h0,hn⟩ | ⟨rfl,hy⟩
  ·rw [txt_no (fun h=>hn h.2)];simp;omega
  ·rw [txt_yes ⟨h24,hy⟩];simp
 ·have h24': ¬(s.size:Int)≤24:=by omega
  have HG:=ai (txt_no (s:=s) (fun h=>h24 h.1))
  go_enter Tryz.func129,Tryz.ntmps129;go_wp2;go_ret
  exact⟨by rw [HG.o];rfl,Below.refl _ _⟩
theorem rvalid_text (s:ByteArray) (w:World) (hs:s.size≤maxLen) :
  Calls Tryz.prog 119 #[.agg #[.int .i64 3,.int .i64 0,.string s]] w fun e w'=>e = .returned (.bool (txt s))∧Below w.heap.size w w':=by
 unfold maxLen at hs
 by_cases h24:s.size≤24
 ·have h24': (s.size:Int)≤24:=by omega
  go_enter Tryz.func119,Tryz.ntmps119;go_wp2;go_loop [3] (fun i=>∃k:Nat,k≤s.size∧i = .int .i64 k∧∀j (h:j<s.size),j<k→goodN (s[j]'h).toNat=true) (fun i=>s.size - (intOf i).toNat)
  case atStart=>exact⟨0,Nat.zero_le _,rfl,fun j _ h=>absurd h (by omega)⟩
  case round=>
   obtain⟨k,hk,rfl,hno⟩:=hrel;have HN:=ai hno;clear hno;by_cases hlt:k<s.size
   ·have hki: (k:Int) < (s.size:Int):=by omega
    by_cases d1: ((s[k]'hlt).toNat:Int) <32
    ·have HG:=ai (txt_no (s:=s) (fun h=>by have:=h.2 k hlt;unfold goodN at this;have:=of_decide_eq_true this;omega))
     go_wp2;go_ret
     exact⟨by rw [HG.o];rfl,belA _⟩
    ·by_cases d2:126< ((s[k]'hlt).toNat:Int)
     ·have HG:=ai (txt_no (s:=s) (fun h=>by have:=h.2 k hlt;unfold goodN at this;have:=of_decide_eq_true this;omega))
      go_wp2;go_ret
      exact⟨by rw [HG.o];rfl,belA _⟩
     ·by_cases d3': ((s[k]'hlt).toNat:Int) =39
      ·have d3: (((s[k]'hlt).toNat:Int) == 39) =true:=by simpa using d3'
       have HG:=ai (txt_no (s:=s) (fun h=>by have:=h.2 k hlt;unfold goodN at this;have:=of_decide_eq_true this;omega))
       clear d3';go_wp2;go_ret
       exact⟨by rw [HG.o];rfl,belA _⟩
      ·have d3: (((s[k]'hlt).toNat:Int) == 39) =false:=by simpa using d3'
       have HV:=ai (show goodN (s[k]'hlt).toNat=true by unfold goodN;exact decide_eq_true ⟨by omega,by omega,by omega⟩)
       clear d3';go_wp2;go_round
       case rel=>
        refine⟨k+1,by omega,by go_num,fun j hj h=> ?_⟩
        by_cases e:j=k
        ·subst e;exact HV.o
        ·exact HN.o j hj (by omega)
       case measure=>simp [intOf];omega
   ·have hki: ¬(k:Int) < (s.size:Int):=by omega
    have HG:=ai (txt_yes (s:=s) ⟨h24,fun j hj=>HN.o j hj (by omega)⟩)
    go_wp2;go_ret
    exact⟨by rw [HG.o];rfl,belA _⟩
 ·have h24': ¬(s.size:Int)≤24:=by omega
  have HG:=ai (txt_no (s:=s) (fun h=>h24 h.1))
  go_enter Tryz.func119,Tryz.ntmps119;go_wp2;go_ret
  exact⟨by rw [HG.o];rfl,belA _⟩
def inR (n:Int) :Bool:=decide (-1000000000000≤n∧n≤1000000000000)
def in01 (n:Int) :Bool:=decide (n=0∨n=1)
theorem vvalid_text (s:ByteArray) (w:World) (hs:s.size≤maxLen) :
  Calls Tryz.prog 92 #[.agg #[.int .i64 3,.int .i64 0,.string s]] w fun e w'=>e = .returned (.bool (txt s))∧Below w.heap.size w w':=by
 go_enter Tryz.func92,Tryz.ntmps92;go_wp2_with (go_at_call 129;refine(text_any s _ hs).mono ?_;rintro e w1 ⟨rfl,hb⟩)
 go_ret
 exact⟨rfl,bel1 hb⟩
end Go.Proofs.YtiijaaohphokcaaGreatDoor

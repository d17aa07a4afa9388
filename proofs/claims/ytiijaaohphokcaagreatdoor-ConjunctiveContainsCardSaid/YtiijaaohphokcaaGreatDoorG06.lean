/- Conjunctive queries: their variables numbered in the order in which they stand. -/
import Derived.Test.YtiijaaohphokcaaGreatDoorG03
import Derived.Test.YtiijaaohphokcaaGreatDoorG05
set_option maxRecDepth 100000
set_option maxHeartbeats 16000000
namespace Go.Proofs.YtiijaaohphokcaaGreatDoor
section
variable {K:Type}
def occT (o:List Nat) :Tm K→List Nat
 | .v x=>if x∈o then o else o ++ [x]
 | .c _=>o
def occL (o:List Nat) (l:List (Tm K)) :List Nat:=l.foldl occT o
def occQ (o:List Nat) (l:List (Lt K)) :List Nat:=l.foldl (fun o a=>occL o a.2) o
def ren (o:List Nat) :Tm K→Tm K:=Tm.app (fun x=>.v (o.idxOf x))
theorem occT_v (o:List Nat) (x:Nat) :occT o (.v x:Tm K) =if x∈o then o else o ++ [x]:=rfl
theorem erase_map {α β:Type} (f:α→β) : ∀(l:List α) (j:Nat),(l.map f).eraseIdx j= (l.eraseIdx j).map f
 | [],_=>rfl
 | _ :: _,0=>rfl
 | a :: l,j+1=>by show f a :: (l.map f).eraseIdx j=f a :: (l.eraseIdx j).map f;rw [erase_map f l j]
theorem occT_pre (o:List Nat) (t:Tm K) :o <+: occT o t:=by
 cases t with
 | v x=>rw [occT_v];split;exact List.prefix_refl _;exact List.prefix_append _ _
 | c k=>exact List.prefix_refl _
theorem occL_pre: ∀(l:List (Tm K)) (o:List Nat),o <+: occL o l
 | [],o=>List.prefix_refl _
 | t :: l,o=>(occT_pre o t).trans (occL_pre l (occT o t))
theorem occQ_pre: ∀(l:List (Lt K)) (o:List Nat),o <+: occQ o l
 | [],o=>List.prefix_refl _
 | t :: l,o=>(occL_pre t.2 o).trans (occQ_pre l (occL o t.2))
theorem occT_mem (o:List Nat) (x:Nat) :x∈occT o (.v x:Tm K):=by
 rw [occT_v]
 split
 ·assumption
 ·simp
theorem occL_mem: ∀(l:List (Tm K)) (o:List Nat) (x:Nat),Tm.v x∈l→x∈occL o l
 | t :: l,o,x,h=>by
  rcases List.mem_cons.1 h with rfl|h
  ·exact(occL_pre l _).subset (occT_mem o x)
  ·exact occL_mem l _ x h
theorem occQ_mem: ∀(l:List (Lt K)) (o:List Nat) (x:Nat),(∃a∈l,Tm.v x∈a.2)→x∈occQ o l
 | a :: l,o,x,⟨b,hb,hx⟩=>by
  rcases List.mem_cons.1 hb with rfl|hb
  ·exact(occQ_pre l _).subset (occL_mem _ o x hx)
  ·exact occQ_mem l _ x ⟨b,hb,hx⟩
theorem occL_sub: ∀(l:List (Tm K)) (o:List Nat) (x:Nat),x∈occL o l→x∈o∨Tm.v x∈l
 | [],o,x,h=>.inl h
 | t :: l,o,x,h=>by
  rcases occL_sub l (occT o t) x h with h|h
  ·cases t with
   | v y=>
    rw [occT_v]at h
    split at h
    ·exact .inl h
    ·rcases List.mem_append.1 h with h|h
     ·exact .inl h
     ·rw [List.mem_singleton.1 h];exact .inr (by simp)
   | c k=>exact .inl h
  ·exact .inr (List.mem_cons_of_mem _ h)
theorem occQ_sub: ∀(l:List (Lt K)) (o:List Nat) (x:Nat),x∈occQ o l→x∈o∨∃a∈l,Tm.v x∈a.2
 | [],o,x,h=>.inl h
 | a :: l,o,x,h=>by
  rcases occQ_sub l (occL o a.2) x h with h| ⟨b,hb,hx⟩
  ·exact(occL_sub a.2 o x h).imp id (fun h=>⟨a,by simp,h⟩)
  ·exact .inr ⟨b,List.mem_cons_of_mem _ hb,hx⟩
theorem occT_nodup {o:List Nat} (h:o.Nodup) (t:Tm K) : (occT o t).Nodup:=by
 cases t with
 | v x=>
  rw [occT_v]
  split
  ·exact h
  ·rename_i hx
   rw [List.nodup_append];exact⟨h,by simp,fun a ha b hb=>by rw [List.mem_singleton.1 hb];rintro rfl;exact hx ha⟩
 | c k=>exact h
theorem occL_nodup: ∀(l:List (Tm K)) {o:List Nat},o.Nodup→(occL o l).Nodup
 | [],_,h=>h
 | t :: l,_,h=>occL_nodup l (occT_nodup h t)
theorem occQ_nodup: ∀(l:List (Lt K)) {o:List Nat},o.Nodup→(occQ o l).Nodup
 | [],_,h=>h
 | t :: l,_,h=>occQ_nodup l (occL_nodup t.2 h)
theorem idx_pre {o o':List Nat} (h:o <+: o') {x:Nat} (hx:x∈o) :o'.idxOf x=o.idxOf x:=by
 obtain⟨t,rfl⟩:=h;rw [List.idxOf_append,if_pos hx]
theorem ren_pre {o o':List Nat} (h:o <+: o') {l:List (Tm K)} (hl: ∀x,Tm.v x∈l→x∈o) :l.map (ren o') =l.map (ren o):=by
 refine List.map_congr_left (fun t ht=> ?_)
 cases t with
 | v x=>show Tm.v _=Tm.v _;rw [idx_pre h (hl x ht)]
 | c k=>rfl
def Cj.occ (q:Cj K) :List Nat:=occQ [] q.lits
def Cj.map (h:Nat→Tm K) (q:Cj K) :Cj K:=⟨q.lits.map (Lt.app h),q.head.map (Tm.app h)⟩
def Cj.num (q:Cj K) :Cj K:=q.map (fun x=>.v (q.occ.idxOf x))
theorem occ_iff {q:Cj K} (x:Nat) :x∈q.occ↔Occ q x:=by
 constructor
 ·intro h
  rcases occQ_sub _ _ _ h with h|h
  ·cases h
  ·exact h
 ·exact fun h=>occQ_mem _ _ _ h
theorem idx_get {o:List Nat} {x:Nat} (h:x∈o) :o.getD (o.idxOf x) 0=x:=by
 have hl:=List.idxOf_lt_length_iff.2 h;rw [List.getD_eq_getElem?_getD,List.getElem?_eq_getElem hl,Option.getD_some];exact List.getElem_idxOf hl
theorem occ_map {q:Cj K} {f:Nat→Nat} {y:Nat} : Occ (q.map (fun x=>.v (f x))) y↔∃x,Occ q x∧f x=y:=by
 constructor
 ·rintro ⟨l,hl,hm⟩
  obtain⟨a,ha,rfl⟩:=List.mem_map.1 hl;obtain⟨t,ht,e⟩:=List.mem_map.1 hm
  cases t with
  | v x=>injection e with e;exact⟨x,⟨a,ha,ht⟩,e⟩
  | c k=>cases e
 ·rintro ⟨x,⟨a,ha,hx⟩,rfl⟩
  exact⟨_,List.mem_map_of_mem ha,List.mem_map_of_mem (f:=Tm.app (fun x=>Tm.v (f x))) hx⟩
theorem occT_map {f:Nat→Nat} {o:List Nat} {t:Tm K} (hinj: ∀x,x∈o→∀y,t = .v y→f x=f y→x=y) :occT (o.map f) (Tm.app (fun x=>.v (f x)) t) = (occT o t).map f:=by
 cases t with
 | v x=>
  show(if f x∈o.map f then o.map f else o.map f ++ [f x]) = (if x∈o then o else o ++ [x]).map f
  by_cases h:x∈o
  ·rw [if_pos h,if_pos (List.mem_map_of_mem h)]
  ·rw [if_neg h,if_neg]
   ·simp
   ·intro hm
    obtain⟨y,hy,e⟩:=List.mem_map.1 hm;exact h (hinj y hy x rfl e▸hy)
 | c k=>rfl
theorem occL_map {f:Nat→Nat} {D:Nat→Prop} (hinj: ∀x y,D x→D y→f x=f y→x=y) : ∀(l:List (Tm K)) (o:List Nat),(∀x∈o,D x)→(∀x,Tm.v x∈l→D x)→occL (o.map f) (l.map (Tm.app (fun x=>.v (f x)))) = (occL o l).map f
 | [],_,_,_=>rfl
 | t :: l,o,ho,hl=>by
  show occL (occT (o.map f) (Tm.app _ t)) (l.map _) = (occL (occT o t) l).map f
  rw [occT_map (fun x hx y e=>hinj x y (ho x hx) (hl y (by rw [e];simp)))]
  refine occL_map hinj l _ (fun x hx=> ?_) (fun x hx=>hl x (List.mem_cons_of_mem _ hx))
  rcases occL_sub [t] o x hx with h|h
  ·exact ho x h
  ·exact hl x (by rw [List.mem_singleton.1 h];simp)
theorem occQ_map {f:Nat→Nat} {D:Nat→Prop} (hinj: ∀x y,D x→D y→f x=f y→x=y) : ∀(l:List (Lt K)) (o:List Nat),(∀x∈o,D x)→(∀a∈l,∀x,Tm.v x∈a.2→D x)→occQ (o.map f) (l.map (Lt.app (fun x=>.v (f x)))) = (occQ o l).map f
 | [],_,_,_=>rfl
 | a :: l,o,ho,hl=>by
  show occQ (occL (o.map f) (a.2.map _)) (l.map _) = (occQ (occL o a.2) l).map f
  rw [occL_map hinj a.2 o ho (fun x hx=>hl a (by simp) x hx)]
  refine occQ_map hinj l _ (fun x hx=> ?_) (fun b hb x hx=>hl b (List.mem_cons_of_mem _ hb) x hx)
  rcases occL_sub a.2 o x hx with h|h
  ·exact ho x h
  ·exact hl a (by simp) x h
theorem num_occ (q:Cj K) :q.num.occ=List.range q.occ.length:=by
 have hn:q.occ.Nodup:=occQ_nodup _ (by simp)
 have h1:q.num.occ=q.occ.map (fun x=>q.occ.idxOf x):=by
  have:=occQ_map (K:=K) (f:=fun x=>q.occ.idxOf x) (D:=Occ q) (fun x y hx hy e=>by
   have e:q.occ.idxOf x=q.occ.idxOf y:=e;rw [←idx_get ((occ_iff x).2 hx),e,idx_get ((occ_iff y).2 hy)]) q.lits [] (fun x hx=>by cases hx) (fun a ha x hx=>⟨a,ha,hx⟩)
  exact this
 rw [h1];apply List.ext_getElem
 ·simp
 ·intro i h2 h3
  rw [List.getElem_map,List.getElem_range];exact List.Nodup.idxOf_getElem hn i (by simpa using h2)
end
end Go.Proofs.YtiijaaohphokcaaGreatDoor
/- Cores, plainly: what the law says of them. -/
namespace Go.Proofs.YtiijaaohphokcaaGreatDoor
section
variable {K:Type}
noncomputable def Cj.core (q:Cj K) :Cj K:=(coreL q.lits.length q 0).num
theorem num_len (q:Cj K) :q.num.lits.length=q.lits.length:=List.length_map _
end
end Go.Proofs.YtiijaaohphokcaaGreatDoor
/- Conjunctive queries that are valid for tables with these types of columns. -/
namespace Go.Proofs.YtiijaaohphokcaaGreatDoor
open Go.RowKit
def Pool (k:V) :Prop:=k.num<1000∧k.text.data.toList.head? ≠some 118
def SlotOk (vars:Nat) (τ:Nat→Int) (t:Tm V) (c:Int) :Prop:=
 match t with
 | .v n=>n<vars∧τ n=c
 | .c k=>(validV k=true∧Pool k)∧k.kind=c
def HeadOk (vars:Nat) (t:Tm V) :Prop:=
 match t with
 | .v n=>n<vars
 | .c k=>(validV k=true∧Pool k)∧k.kind≠0∧k.kind≠2
def LitOk (T:List (List Int)) (vars:Nat) (τ:Nat→Int) (l:Lt V) :Prop:=∃ty,T[l.1]? = some ty∧l.2.length=ty.length∧∀(i:Nat) (t:Tm V) (c:Int),l.2[i]? = some t→ty[i]? = some c→SlotOk vars τ t c
structure Right (T:List (List Int)) (vars:Nat) (q:Cj V) (τ:Nat→Int) :Prop where
 n1:0<q.lits.length
 n8:q.lits.length≤8
 v16:vars≤16
 h1:0<q.head.length
 h24:q.head.length≤24
 lit: ∀l∈q.lits,LitOk T vars τ l
 occ: ∀n,n<vars→Occ q n
 hd: ∀t∈q.head,HeadOk vars t
theorem Right.cov {T:List (List Int)} {vars:Nat} {q:Cj V} {τ:Nat→Int} (h:Right T vars q τ) :Cov q:=⟨fun x hx=>h.occ x (h.hd _ hx),h.n1⟩
theorem Right.lt {T:List (List Int)} {vars:Nat} {q:Cj V} {τ:Nat→Int} (h:Right T vars q τ) {x:Nat} (hx:Occ q x) :x<vars:=by
 obtain⟨l,hl,hm⟩:=hx;obtain⟨ty,_,h2,h3⟩:=h.lit l hl;obtain⟨i,hi,he⟩:=List.getElem_of_mem hm;exact(h3 i (.v x) (ty[i]'(by omega)) (by rw [List.getElem?_eq_getElem hi,he]) (List.getElem?_eq_getElem (by omega))).1
theorem Right.vars {T:List (List Int)} {vars:Nat} {q:Cj V} {τ:Nat→Int} (h:Right T vars q τ) :q.occ.length=vars:=by
 have hn:q.occ.Nodup:=occQ_nodup _ (by simp)
 have hm: ∀x,x∈q.occ↔x<vars:=fun x=>(occ_iff x).trans ⟨fun hx=>h.lt hx,fun hx=>h.occ x hx⟩
 have h1:q.occ.length≤vars:=by
  apply Classical.byContradiction
  intro hlt;obtain⟨a,b,h1,h2,h3⟩:=php vars (fun k=>q.occ.getD k 0) (fun k hk=>by
   have hkl:k<q.occ.length:=by omega
   show q.occ.getD k 0<vars
   rw [List.getD_eq_getElem?_getD,List.getElem?_eq_getElem hkl];exact(hm _).1 (List.getElem_mem _))
  have ha:a<q.occ.length:=by omega
  have hb:b<q.occ.length:=by omega
  have h3:q.occ.getD a 0=q.occ.getD b 0:=h3;rw [List.getD_eq_getElem?_getD,List.getD_eq_getElem?_getD,List.getElem?_eq_getElem ha,List.getElem?_eq_getElem hb]at h3;have h3:q.occ[a] =q.occ[b]:=h3;have h6:=List.Nodup.idxOf_getElem hn a ha;have h7:=List.Nodup.idxOf_getElem hn b hb;rw [h3,h7]at h6;omega
 have h2:vars≤q.occ.length:=by
  apply Classical.byContradiction
  intro hlt;obtain⟨a,b,h1,h2,h3⟩:=php q.occ.length (fun k=>q.occ.idxOf k) (fun k hk=>List.idxOf_lt_length_iff.2 ((hm k).2 (by omega)))
  have h3:q.occ.idxOf a=q.occ.idxOf b:=h3;have:=idx_get ((hm a).2 (by omega))
  rw [h3,idx_get ((hm b).2 (by omega))]at this
  omega
 omega
theorem SlotOk.map {vars vars':Nat} {τ τ':Nat→Int} {f:Nat→Nat} {t:Tm V} {c:Int} (h:SlotOk vars τ t c) (hf: ∀x,t = .v x→f x<vars'∧τ' (f x) =τ x) :SlotOk vars' τ' (Tm.app (fun x=>.v (f x)) t) c:=by
 cases t with
 | v x=>exact⟨(hf x rfl).1,(hf x rfl).2.trans h.2⟩
 | c k=>exact h
theorem Right.core {T:List (List Int)} {vars:Nat} {q:Cj V} {τ:Nat→Int} (h:Right T vars q τ) : ∃τ',Right T q.core.occ.length q.core τ':=by
 obtain⟨h1,_⟩:=coreL_ok q.lits.length q 0 (by omega) h.cov (fun j h=>absurd h (by omega))
 obtain⟨r,hr⟩ : ∃r,coreL q.lits.length q 0=r:=⟨_,rfl⟩;rw [hr]at h1;have hcore:q.core=r.num:=by unfold Cj.core;rw [hr]
 have hocc:q.core.occ.length=r.occ.length:=by rw [hcore,num_occ];simp
 have hsub: ∀x,Occ r x→Occ q x:=fun x ⟨l,hl,hm⟩=>⟨l,h1.sub l hl,hm⟩
 have hlen:r.occ.length≤vars:=by
  rw [←h.vars];have hn:r.occ.Nodup:=occQ_nodup _ (by simp)
  apply Classical.byContradiction
  intro hlt;obtain⟨a,b,g1,g2,g3⟩:=php q.occ.length (fun k=>q.occ.idxOf (r.occ.getD k 0)) (fun k hk=>List.idxOf_lt_length_iff.2 ((occ_iff _).2 (hsub _ ((occ_iff _).1 (by
   have hkl:k<r.occ.length:=by omega
   rw [List.getD_eq_getElem?_getD,List.getElem?_eq_getElem hkl];exact List.getElem_mem _)))))
  have hmem: ∀k,k<r.occ.length→r.occ.getD k 0∈q.occ:=fun k hkl=>(occ_iff _).2 (hsub _ ((occ_iff _).1 (by rw [List.getD_eq_getElem?_getD,List.getElem?_eq_getElem hkl];exact List.getElem_mem _)))
  have g3:q.occ.idxOf (r.occ.getD a 0) =q.occ.idxOf (r.occ.getD b 0):=g3;have g4:=idx_get (hmem a (by omega))
  rw [g3,idx_get (hmem b (by omega))]at g4
  have ha:a<r.occ.length:=by omega
  have hb:b<r.occ.length:=by omega
  rw [List.getD_eq_getElem?_getD,List.getD_eq_getElem?_getD,List.getElem?_eq_getElem ha,List.getElem?_eq_getElem hb]at g4;have g4:r.occ[b] =r.occ[a]:=g4;have h6:=List.Nodup.idxOf_getElem hn a ha;have h7:=List.Nodup.idxOf_getElem hn b hb;rw [←g4,h7]at h6;omega
 refine⟨fun i=>τ (r.occ.getD i 0),?_⟩
 rw [hocc,hcore];have hf: ∀x,Occ r x→r.occ.idxOf x<r.occ.length∧τ (r.occ.getD (r.occ.idxOf x) 0) =τ x:=fun x hx=>⟨List.idxOf_lt_length_iff.2 ((occ_iff x).2 hx),by rw [idx_get ((occ_iff x).2 hx)]⟩
 refine⟨by rw [num_len];exact h1.cov.2,by rw [num_len];exact Nat.le_trans h1.le h.n8,Nat.le_trans hlen h.v16,?_,?_,fun l hl=> ?_,fun n hn=> ?_,fun t ht=> ?_⟩
 ·show 0< (r.head.map _).length
  rw [List.length_map,h1.head];exact h.h1
 ·show(r.head.map _).length≤24
  rw [List.length_map,h1.head];exact h.h24
 ·obtain⟨a,ha,rfl⟩:=List.mem_map.1 hl
  obtain⟨ty,t1,t2,t3⟩:=h.lit a (h1.sub a ha);refine⟨ty,t1,by show(a.2.map _).length=_;rw [List.length_map];exact t2,fun i t c ht hc=> ?_⟩
  have ht: (a.2.map (Tm.app (fun x=>Tm.v (r.occ.idxOf x))))[i]? = some t:=ht
  rw [List.getElem?_map]at ht
  cases hai:a.2[i]? with
  | none=>rw [hai]at ht;cases ht
  | some u=>
   rw [hai]at ht;injection ht with ht;subst ht;exact(t3 i u c hai hc).map (fun x e=>hf x ⟨a,ha,e▸List.mem_of_getElem? hai⟩)
 ·obtain⟨x,hx⟩ : ∃x,r.occ[n]'hn=x:=⟨_,rfl⟩
  have hxo:Occ r x:=(occ_iff x).1 (hx▸List.getElem_mem hn);have:=(occ_map (q:=r) (f:=fun x=>r.occ.idxOf x) (y:=n)).2 ⟨x,hxo,by rw [←hx];exact List.Nodup.idxOf_getElem (occQ_nodup _ (by simp)) n hn⟩
  exact this
 ·obtain⟨u,hu,rfl⟩:=List.mem_map.1 ht
  have hh:=h.hd u (h1.head▸hu)
  cases u with
  | v x=>exact(hf x (h1.cov.1 x hu)).1
  | c k=>exact hh
end Go.Proofs.YtiijaaohphokcaaGreatDoor

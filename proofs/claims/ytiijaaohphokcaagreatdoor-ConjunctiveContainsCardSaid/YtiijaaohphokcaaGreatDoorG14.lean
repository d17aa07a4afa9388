/- Maps of a slice of maps, as schema.Order keeps them: what they hold, as sets; the closure that asks for an empty map, and slices.IndexFunc over the slice. -/
import Derived.Test.YtiijaaohphokcaaGreatDoorG13
import Derived.Maps.OwnSet
import Derived.Laws.Cover3
set_option maxRecDepth 100000
set_option maxHeartbeats 16000000
namespace Go.Proofs.YtiijaaohphokcaaGreatDoor
open Go.RowKit
abbrev key (k:Nat) :Lit:=.int .i64 (k:Int)
def MS (w:World) (n b:Nat) (S:Nat→Prop) :Prop:=
 ∃D:DataW Unit,w.ownsMap Tryz.prog 3 (plainElem (H:=Unit) Tryz.prog 4) b n D∧∃es,D = .map es∧(∀p∈es,∃k,S k∧p.1=key k)∧(∀k,S k→Maps.has D (key k) =true)
theorem mem_ins {x p:Lit×DataW Unit} : ∀ {l:List (Lit×DataW Unit)},p∈DataW.insert x l→p=x∨p∈l
 | [],h=>by simp [DataW.insert]at h;exact .inl h
 | y :: r,h=>by
  unfold DataW.insert at h
  split at h
  ·rcases List.mem_cons.1 h with h|h
   ·exact .inl h
   ·exact .inr h
  ·rcases List.mem_cons.1 h with h|h
   ·exact .inr (by rw [h];simp)
   ·rcases mem_ins h with h|h
    ·exact .inl h
    ·exact .inr (List.mem_cons_of_mem _ h)
theorem key_inj {i j:Nat} (h:key i=key j) :i=j:=by simp [key]at h;omega
theorem keylit (k:Nat) :WideAt.IsKeyLit (key k):=by simp [WideAt.IsKeyLit]
theorem ms_size {S:Nat→Prop} {D:DataW Unit} {es:List (Lit×DataW Unit)} (he:D = .map es) (h1: ∀p∈es,∃k,S k∧p.1=key k) (h2: ∀k,S k→Maps.has D (key k) =true) :
  Maps.size D=0↔∀k,¬S k:=by
 subst he;rw [Maps.size_eq]
 constructor
 ·intro h k hk
  have:=h2 k hk;rw [List.eq_nil_of_length_eq_zero h]at this;simp [Maps.has_eq]at this
 ·intro h
  cases es with
  | nil=>rfl
  | cons p r=>obtain⟨k,hk,-⟩:=h1 p (by simp);exact absurd hk (h k)
theorem ms_put {w:World} {n b:Nat} {S:Nat→Prop} {D:DataW Unit} {es:List (Lit×DataW Unit)} (k:Nat) (d:DataW Unit) (h:w.ownsMap Tryz.prog 3 (plainElem (H:=Unit) Tryz.prog 4) b n (D.put (key k) d)) (he:D = .map es) (h1: ∀p∈es,∃k,S k∧p.1=key k)
  (h2: ∀k,S k→Maps.has D (key k) =true) :MS w n b (fun j=>S j∨j=k):=by
 refine⟨_,h,?_⟩
 subst he;refine⟨_,rfl,fun p hp=> ?_,fun j hj=> ?_⟩
 ·rcases mem_ins hp with rfl|hp
  ·exact⟨k,.inr rfl,rfl⟩
  ·obtain⟨j,hj,e⟩:=h1 p (List.mem_filter.1 hp).1
   exact⟨j,.inl hj,e⟩
 ·by_cases e:j=k
  ·subst e;exact Maps.has_put_same ⟨_,rfl⟩ (keylit _) _
  ·rw [Maps.has_put_other (fun h=>e (key_inj h))]
   rcases hj with hj|hj
   ·exact h2 j hj
   ·exact absurd hj e
theorem ms_del {w:World} {n b:Nat} {S:Nat→Prop} {D:DataW Unit} {es:List (Lit×DataW Unit)} (k:Nat) (h:w.ownsMap Tryz.prog 3 (plainElem (H:=Unit) Tryz.prog 4) b n (D.del (key k))) (he:D = .map es) (h1: ∀p∈es,∃k,S k∧p.1=key k)
  (h2: ∀k,S k→Maps.has D (key k) =true) :MS w n b (fun j=>S j∧j≠k):=by
 refine⟨_,h,?_⟩
 subst he;refine⟨_,rfl,fun p hp=> ?_,fun j hj=> ?_⟩
 ·obtain⟨j,hj,e⟩:=h1 p (List.mem_filter.1 hp).1
  refine⟨j,⟨hj,fun e2=> ?_⟩,e⟩
  have:=(List.mem_filter.1 hp).2;rw [e,e2,WideAt.sameKey_self (keylit _)]at this
  cases this
 ·rw [Maps.has_del_other (fun h=>hj.2 (key_inj h))]
  exact h2 j hj.1
theorem MS.congr {w:World} {n b:Nat} {S S':Nat→Prop} (h:MS w n b S) (e: ∀k,S k↔S' k) :MS w n b S':=by
 have:S=S':=funext fun k=>propext (e k)
 rw [←this];exact h
theorem MS.kept {w w':World} {n b:Nat} {S:Nat→Prop} {row:Option Nat} (h:MS w n b S) (hg:w.grownBy w' row) (hne:some b≠row) :MS w' n b S:=by
 obtain⟨D,ho,r⟩:=h;exact⟨D,ho.kept hg hne,r⟩
theorem MS.mono {w:World} {n m b:Nat} {S:Nat→Prop} (h:MS w n b S) (hm:n≤m) :MS w m b S:=by
 obtain⟨D,ho,r⟩:=h;exact⟨D,ho.mono hm,r⟩
theorem MS.block {w:World} {n b:Nat} {S:Nat→Prop} (h:MS w n b S) : ∃es clock,w.heap[b]? = some (.map es clock):=by
 obtain⟨D,⟨es,clock,hb,_⟩,r⟩:=h;exact⟨es,clock,hb⟩
theorem MS.lt {w:World} {n b:Nat} {S:Nat→Prop} (h:MS w n b S) :b<w.heap.size:=by
 obtain⟨D,ho,r⟩:=h;exact ho.lt
theorem ms_made (w:World) :MS (w.alloc (.map #[] 0)) 0 w.heap.size (fun _=>False):=
 ⟨_,World.ownsMap_made w _ _ _,[],rfl,fun p hp=>by simp at hp,fun k hk=>hk.elim⟩
theorem own_not_map {w:World} {base k m b:Nat} {e:TypeId} {size:Nat} {v:Value} {xs:List Value} {S:Nat→Prop} (h:w.ownsRow base e size v k xs) (hm:MS w m b S) :v.ownBlock≠some b:=by
 obtain⟨es,clock,hb⟩:=hm.block;obtain⟨-,⟨rfl,-⟩ | ⟨g',cap,cur,rfl,-,hh,-⟩⟩:=h
 ·simp [Value.ownBlock]
 ·intro e1
  simp [Value.ownBlock]at e1;subst e1;rw [hh]at hb
  cases hb
def emptyM (w:World) (o:Option Nat) (r:Bool) :Prop:=match o with
 | none=>r=false
 | some b=>∃(n:Nat) (S:Nat→Prop),MS w n b S∧(r=true↔∀k,¬S k)
theorem oclo_none (w:World) :Calls Tryz.prog 157 #[.map none] w fun e w'=>e = .returned (.bool false)∧Below w.heap.size w w':=by
 have hnq:=fun W:World=>run_neq_map_nil (P:=Tryz.prog) (w:=W) 202 3 4 none Tryz.underlying202
 go_enter Tryz.func157,Tryz.ntmps157;go_wp2;go_ret
 exact⟨rfl,Below.refl _ _⟩
theorem oclo_some (w:World) (b n:Nat) (S:Nat→Prop) (r:Bool) (h:MS w n b S) (hr:r=true↔∀k,¬S k) :Calls Tryz.prog 157 #[.map (some b)] w fun e w'=>e = .returned (.bool r)∧Below w.heap.size w w':=by
 obtain⟨D,ho,es,he,h1,h2⟩:=h;have hsz:=ms_size he h1 h2;rw [←hr]at hsz;have HR:=ai hsz;clear hr hsz;have hnq:=fun W:World=>run_neq_map_nil (P:=Tryz.prog) (w:=W) 202 3 4 (some b) Tryz.underlying202
 have hln:=ho.len Tryz.underlying202 3
 go_enter Tryz.func157,Tryz.ntmps157;go_wp2;go_ret
 refine⟨congrArg (fun x=>Ending.returned (Value.bool x)) ?_,Below.refl _ _⟩
 subst he;rw [Bool.eq_iff_iff,←HR.o,beq_iff_eq];exact Int.natCast_eq_zero
theorem emptyM.mono {w w':World} {o:Option Nat} {r:Bool} (h:emptyM w o r) (hb:Below w.heap.size w w') :emptyM w' o r:=by
 cases o with
 | none=>exact h
 | some b=>
  obtain⟨n,S,hm,hr⟩:=h;exact⟨n,S,hm.kept (grown_of_below hb) (by simp),hr⟩
theorem oclo_any (w:World) (o:Option Nat) (r:Bool) (h:emptyM w o r) :Calls Tryz.prog 157 #[.map o] w fun e w'=>e = .returned (.bool r)∧Below w.heap.size w w':=by
 cases o with
 | none=>
  have h2:r=false:=h;subst h2;exact oclo_none w
 | some b=>
  obtain⟨n,S,hm,hr⟩:=h;exact oclo_some w b n S r hm hr
theorem fx_range_hit {p:Nat→Bool} {n m:Nat} (hm:m<n) (hp:p m=true) (hn: ∀j,j<m→p j=false) :fx p (List.range n) =m:=
 fx_hit (by simpa using hm) (by simpa using hp) (fun j hj h=>by simpa using hn j h)
theorem fx_range_miss {p:Nat→Bool} {n:Nat} (hn: ∀j,j<n→p j=false) :fx p (List.range n) = -1:=
 fx_miss (fun j hj=>by simpa using hn j (by simpa using hj))
theorem oindex_any (w:World) (g n:Nat) (os:List (Option Nat)) (p:Nat→Bool) (hl:os.length=n) (hn:n≤10) (hg:g<w.heap.size) (hc: ∀j (hj:j<os.length),w.cell? ⟨g,j,none⟩ =some (.map os[j])) (hE: ∀j (hj:j<os.length),emptyM w os[j] (p j)) :
  Calls Tryz.prog 156 #[.slice (some ⟨g,0,none⟩) n n,.func (.func 157) #[] #[]] w
   fun e w'=>e = .returned (.int .i64 (fx p (List.range n)))∧Below w.heap.size w w':=by
 have HC:=ai hc;have HE:=ai hE;clear hc hE
 go_enter Tryz.func156,Tryz.ntmps156;go_wp2;go_loopw [5,8] (fun _ i wr=>∃k:Nat,k≤n∧i = .int .i64 k∧(∀j,j<k→p j=false)∧Below w.heap.size w wr) (fun _ i _=>n - (intOf i).toNat)
 case atStart=>exact⟨0,Nat.zero_le _,rfl,fun j h=>absurd h (by omega),Below.refl _ _⟩
 case round=>
  obtain⟨k,hk,rfl,hno,hbw⟩:=hrel;have HN:=ai hno;have HB:=ai hbw;clear hno hbw;by_cases hlt:k<n
  ·have hko:k<os.length:=by omega
   have hki: (k:Int) <n:=by omega
   have hcell:wr.cell? ⟨g,k,none⟩ =some (.map os[k]):=by rw [HB.o.cell (p:=⟨g,k,none⟩) hg];exact HC.o k hko
   have HM:=ai ((HE.o k hko).mono HB.o);generalize os[k] =o at *
   cases hp:p k
   all_goals
    have HP:=ai hp;clear hp;go_wp2_with (go_at_call 157;refine(oclo_any _ o _ HM.o).mono ?_;rintro e w1 ⟨rfl,hb1⟩;rw [HP.o])
   ·go_roundw
    case rel=>
     refine⟨k+1,by omega,by go_num,fun j h=> ?_,HB.o.trans (hb1.mono HB.o.size)⟩
     by_cases e:j=k
     ·subst e;exact HP.o
     ·exact HN.o j (by omega)
    case measure=>simp [intOf];omega
   ·go_ret
    exact⟨ret1 (fx_range_hit hlt HP.o (fun j h=>HN.o j h)).symm,HB.o.trans (hb1.mono HB.o.size)⟩
  ·have hki: ¬(k:Int) <n:=by omega
   go_wp2;go_ret
   exact⟨ret1 (fx_range_miss (fun j hj=>HN.o j (by omega))).symm,HB.o⟩
end Go.Proofs.YtiijaaohphokcaaGreatDoor
/- What schema.Order keeps between two steps: a slice of maps, each with its set. -/
namespace Go.Proofs.YtiijaaohphokcaaGreatDoor
open Go.RowKit
structure BO (w:World) (n g:Nat) (bx:Obj) (wr:World) (os:List (Option Nat)) (S:Nat→Nat→Prop) :Prop where
 row:wr.ownsRow (w.heap.size+1) 202 1 (.slice (some ⟨g,0,none⟩) n n) n (os.map .map)
 len:os.length=n
 sets: ∀(j b:Nat),os[j]? = some (some b)→w.heap.size+1≤b∧∃m,MS wr m b (S j)
 ap: ∀(i j b:Nat),os[i]? = some (some b)→os[j]? = some (some b)→i=j
 bw:Below (w.heap.size+1) (w.alloc bx) wr
variable {w wr w':World} {n g k m b:Nat} {bx:Obj} {os:List (Option Nat)} {S S':Nat→Nat→Prop}
theorem BO.sz (h:BO w n g bx wr os S) :w.heap.size+1≤wr.heap.size:=by have:=h.bw.size;simpa using this
theorem BO.lt (h:BO w n g bx wr os S) :w.heap.size+1≤g∧g<wr.heap.size:=h.row.lt g rfl
theorem BO.cell (h:BO w n g bx wr os S) {j:Nat} (hj:j<os.length) :wr.cell? ⟨g,j,none⟩ =some (.map os[j]):=by
 rw [h.row.cellAt j (by have:=h.len;omega)]
 simp [hj]
theorem BO.free (h:BO w n g bx wr os S) (j:Nat) :wr.frozen? ⟨g,j,none⟩ =false:=h.row.frozenAt j
theorem BO.gb (h:BO w n g bx wr os S) {j:Nat} (hj:os[j]? = some (some b)) :some g≠some b:=by
 obtain⟨-,m,hm⟩:=h.sets j b hj;exact own_not_map h.row hm
theorem BO.below (h:BO w n g bx wr os S) (hb:Below wr.heap.size wr w') :BO w n g bx w' os S:=
 ⟨h.row.kept (grown_of_below hb) (.inr (by simp [Value.ownBlock])),h.len,fun j b hj=>by
  obtain⟨h1,m,hm⟩:=h.sets j b hj;exact⟨h1,m,hm.kept (grown_of_below hb) (by simp)⟩,h.ap,h.bw.trans (hb.mono h.sz)⟩
theorem BO.other (h:BO w n g bx wr os S) {v:Value} {e:TypeId} {q c:Nat} {xs:List Value} (hv:wr.ownsRow c e q v m xs) (hne:v.ownBlock≠some g) (hc:w.heap.size+1≤c) (hg:wr.grownBy w' v.ownBlock) :BO w n g bx w' os S:=
 ⟨h.row.kept hg (.inr (fun e=>hne e.symm)),h.len,fun j b hj=>by
  obtain⟨h1,m,hm⟩:=h.sets j b hj;exact⟨h1,m,hm.kept hg (fun e=>own_not_map hv hm e.symm)⟩,h.ap,h.bw.grown hg h.sz (fun i hi=>Nat.le_trans hc (hv.lt i hi).1)⟩
theorem BO.turn (h:BO w n g bx wr os S) (hg:wr.grownBy w' (some b)) (hk:os[k]? = some (some b)) (hm:MS w' m b (S' k)) (hS: ∀j,j≠k→S' j=S j) :BO w n g bx w' os S':=
 ⟨h.row.kept hg (.inr (h.gb hk)),h.len,fun j c hj=>by
  by_cases e:j=k
  ·subst e
   rw [hk]at hj
   cases hj;exact⟨(h.sets j b hk).1,m,hm⟩
  ·obtain⟨h1,m,hm⟩:=h.sets j c hj
   rw [hS j e];exact⟨h1,m,hm.kept hg (fun e2=>by cases e2;exact e (h.ap j k b hj hk))⟩,h.ap,h.bw.grown hg h.sz (fun i hi=>by cases hi;exact(h.sets k b hk).1)⟩
theorem set_at {α:Type} {l:List α} {k j:Nat} {x:α} (hk:k<l.length) : (l.set k x)[j]? = if j=k then some x else l[j]? :=by
 rw [List.getElem?_set];by_cases e:k=j
 ·subst e;simp [hk]
 ·rw [if_neg e,if_neg (fun h=>e h.symm)]
theorem BO.made (h:BO w n g bx wr os S) (hkn:k<n) (hS: ∀j,j≠k→S' j=S j) (hk: ∀t,¬S' k t) :
  BO w n g bx ((wr.alloc (.map #[] 0)).setCell ⟨g,k,none⟩ (.map (some wr.heap.size))) (os.set k (some wr.heap.size)) S'∧
  MS ((wr.alloc (.map #[] 0)).setCell ⟨g,k,none⟩ (.map (some wr.heap.size))) 0 wr.heap.size (S' k):=by
 have hb:Below wr.heap.size wr (wr.alloc (.map #[] 0)):=belA _;have h1:=h.below hb;obtain⟨h2,h3⟩:=h1.row.stored k (.map (some wr.heap.size));have hlt:=h.lt;have hm:MS ((wr.alloc (.map #[] 0)).setCell ⟨g,k,none⟩ (.map (some wr.heap.size))) 0 wr.heap.size (S' k):=
  ((ms_made wr).kept h3 (by intro e;cases e;omega)).congr (fun t=>⟨False.elim,fun h=>hk t h⟩)
 have hko:k<os.length:=by have:=h.len;omega
 refine⟨⟨by rw [List.map_set];exact h2,by simpa using h.len,fun j c hj=> ?_,fun i j c hi hj=> ?_,h1.bw.setCell (p:=⟨g,k,none⟩) hlt.1 _⟩,hm⟩
 ·rw [set_at hko]at hj
  by_cases e:j=k
  ·subst e
   rw [if_pos rfl]at hj
   cases hj;exact⟨h.sz,0,hm⟩
  ·rw [if_neg e]at hj
   obtain⟨q1,m,hm'⟩:=h.sets j c hj;rw [hS j e];exact⟨q1,m,(hm'.kept (grown_of_below hb) (by simp)).kept h3 (fun e2=>h.gb hj e2.symm)⟩
 ·rw [set_at hko]at hi hj
  by_cases e:i=k
  ·by_cases e2:j=k
   ·rw [e,e2]
   ·rw [if_pos e]at hi
    rw [if_neg e2]at hj
    cases hi;obtain⟨-,m,hm'⟩:=h.sets j _ hj;exact absurd hm'.lt (by omega)
  ·by_cases e2:j=k
   ·rw [if_neg e]at hi
    rw [if_pos e2]at hj
    cases hj;obtain⟨-,m,hm'⟩:=h.sets i _ hi;exact absurd hm'.lt (by omega)
   ·rw [if_neg e]at hi
    rw [if_neg e2]at hj;exact h.ap i j c hi hj
theorem BO.nil (h:BO w n g bx wr os S) (hkn:k<n) :BO w n g bx (wr.setCell ⟨g,k,none⟩ (.map none)) (os.set k none) S:=by
 obtain⟨h2,h3⟩:=h.row.stored k (.map none);have hlt:=h.lt;have hko:k<os.length:=by have:=h.len;omega
 have key: ∀ {j c:Nat},(os.set k none)[j]? = some (some c)→os[j]? = some (some c):=by
  intro j c hj;rw [set_at hko]at hj;by_cases e:j=k
  ·rw [if_pos e]at hj;cases hj
  ·rw [if_neg e]at hj;exact hj
 refine⟨by rw [List.map_set];exact h2,by simpa using h.len,fun j c hj=> ?_,fun i j c hi hj=>h.ap i j c (key hi) (key hj),h.bw.setCell (p:=⟨g,k,none⟩) hlt.1 _⟩
 obtain⟨q1,m,hm'⟩:=h.sets j c (key hj);exact⟨q1,m,hm'.kept h3 (fun e2=>h.gb (key hj) e2.symm)⟩
end Go.Proofs.YtiijaaohphokcaaGreatDoor
/- The states of schema.Order: while the maps are filled, between two rounds, while a table is struck from the maps. -/
namespace Go.Proofs.YtiijaaohphokcaaGreatDoor
open Go.RowKit
theorem info_map: (Tryz.prog.info? 202).map (fun i=>(i.zero,i.size,i.bytes)) =some (some (.map none),1,8):=by kernel_rfl
theorem made_maps (n:Nat) : (madeCells (Value.map none).cells (n*1)).toList= (List.replicate n (none:Option Nat)).map .map:=by
 rw [show(Value.map none).cells = #[Value.map none]from rfl,toList_madeCells_one]
 simp
structure P1 (s:Sch) (w:World) (g:Nat) (bx:Obj) (k:Nat) (wr:World) (os:List (Option Nat)) (S:Nat→Nat→Prop) :Prop where
 bo:BO w s.tabs.length g bx wr os S
 has: ∀j,j<k→∃b,os[j]? = some (some b)
 no: ∀j,k≤j→j<s.tabs.length→os[j]? = some none
 fnd: ∀j,j<k→found s j
 sets: ∀j,j<k→∀t,S j t↔∃(hj:j<s.tabs.length) (q:Nat) (hq:q<s.tabs[j].fors.length),tnum s s.tabs[j].fors[q].tab=t
structure P2 (s:Sch) (w:World) (g:Nat) (bx:Obj) (k q:Nat) (wr:World) (b:Nat) (os:List (Option Nat)) (S:Nat→Nat→Prop) :Prop where
 bo:BO w s.tabs.length g bx wr os S
 has: ∀j,j<k+1→∃b,os[j]? = some (some b)
 no: ∀j,k+1≤j→j<s.tabs.length→os[j]? = some none
 fnd: ∀j,j<k→found s j
 fndq: ∀(hk:k<s.tabs.length) p (hp:p<s.tabs[k].fors.length),p<q→fok (named s.tabs[k].fors[p].tab) s.tabs=true
 sets: ∀j,j<k→∀t,S j t↔∃(hj:j<s.tabs.length) (q:Nat) (hq:q<s.tabs[j].fors.length),tnum s s.tabs[j].fors[q].tab=t
 setk: ∀t,S k t↔∃(hk:k<s.tabs.length) (p:Nat) (hp:p<s.tabs[k].fors.length),p<q∧tnum s s.tabs[k].fors[p].tab=t
 at':os[k]? = some (some b)
 ms:MS wr q b (S k)
section
variable {s:Sch} {w wr w':World} {g k q b:Nat} {bx:Obj} {os:List (Option Nat)} {S:Nat→Nat→Prop}
theorem P1.start (h:P1 s w g bx k wr os S) (hk:k<s.tabs.length) (x:Obj) :
  ∃S',P2 s w g bx k 0 (((wr.alloc x).alloc (.map #[] 0)).setCell ⟨g,k,none⟩ (.map (some (wr.heap.size+1)))) (wr.heap.size+1) (os.set k (some (wr.heap.size+1))) S':=by
 have e: (wr.alloc x).heap.size=wr.heap.size+1:=by simp
 have hko:k<os.length:=by have:=h.bo.len;omega
 have h1:=(h.bo.below (belA x)).made (S':=fun j=>if j=k then fun _=>False else S j) hk (fun j hj=>by simp [hj]) (fun t=>by simp)
 rw [e]at h1;refine⟨_,h1.1,fun j hj=> ?_,fun j hj hn=> ?_,h.fnd,fun _ p _ hp=>absurd hp (by omega),fun j hj t=> ?_,fun t=> ?_,?_,?_⟩
 ·rw [set_at hko]
  by_cases e2:j=k
  ·exact⟨_,by rw [if_pos e2]⟩
  ·rw [if_neg e2];exact h.has j (by omega)
 ·rw [set_at hko,if_neg (by omega)]
  exact h.no j (by omega) hn
 ·rw [if_neg (by omega)]
  exact h.sets j hj t
 ·simp
 ·rw [set_at hko,if_pos rfl]
 ·simpa using h1.2
theorem P2.below (h:P2 s w g bx k q wr b os S) (hb:Below wr.heap.size wr w') :P2 s w g bx k q w' b os S:=
 ⟨h.bo.below hb,h.has,h.no,h.fnd,h.fndq,h.sets,h.setk,h.at',h.ms.kept (grown_of_below hb) (by simp)⟩
theorem P2.step (h:P2 s w g bx k q wr b os S) (hk:k<s.tabs.length) (hq:q<s.tabs[k].fors.length) (hf:fok (named s.tabs[k].fors[q].tab) s.tabs=true) (hg:wr.grownBy w' (some b))
  (hm:MS w' (q+1) b (fun j=>S k j∨j=tnum s s.tabs[k].fors[q].tab)) : ∃S',P2 s w g bx k (q+1) w' b os S':=by
 refine⟨fun j=>if j=k then fun t=>S k t∨t=tnum s s.tabs[k].fors[q].tab else S j,h.bo.turn hg h.at' (m:=q+1) (by simpa using hm) (fun j hj=>by simp [hj]),h.has,h.no,h.fnd,fun hk p hp hlt=> ?_,fun j hj t=> ?_,fun t=> ?_,h.at',by simpa using hm⟩
 ·by_cases e:p=q
  ·subst e;exact hf
  ·exact h.fndq hk p hp (by omega)
 ·simp only [if_neg (show j≠k by omega)]
  exact h.sets j hj t
 ·simp only [if_pos]
  rw [h.setk]
  constructor
  ·rintro (⟨hk,p,hp,h1,h2⟩ |h1)
   ·exact⟨hk,p,hp,by omega,h2⟩
   ·exact⟨hk,q,hq,by omega,h1.symm⟩
  ·rintro ⟨hk,p,hp,h1,h2⟩
   by_cases e:p=q
   ·subst e;exact .inr h2.symm
   ·exact .inl ⟨hk,p,hp,by omega,h2⟩
theorem P2.done (h:P2 s w g bx k q wr b os S) (hk:k<s.tabs.length) (hq: ¬q<s.tabs[k].fors.length) :P1 s w g bx (k+1) wr os S:=by
 refine⟨h.bo,h.has,h.no,fun j hj=> ?_,fun j hj t=> ?_⟩
 ·by_cases e:j=k
  ·subst e;intro hk p hp;exact h.fndq hk p hp (by omega)
  ·exact h.fnd j (by omega)
 ·by_cases e:j=k
  ·subst e
   rw [h.setk];exact⟨fun⟨hk,p,hp,_,h2⟩=>⟨hk,p,hp,h2⟩,fun⟨hk,p,hp,h2⟩=>⟨hk,p,hp,by omega,h2⟩⟩
  ·exact h.sets j (by omega) t
end
theorem tn_wf (n:Nat) (h:n≤10) : (Lit.int .i64 (n:Int)).wf=true:=WalkArith.wf_i64 (by omega)
def refs (s:Sch) (j t:Nat) :Prop:=∃(hj:j<s.tabs.length) (q:Nat) (hq:q<s.tabs[j].fors.length),tnum s s.tabs[j].fors[q].tab=t
theorem rdy_refs (s:Sch) (D:List Nat) {j:Nat} (hj:j<s.tabs.length) :rdy (tgts s) D j↔j ∉ D∧∀t,refs s j t→t∈D:=by
 rw [rdy_iff s D hj];refine and_congr Iff.rfl ⟨fun h t ⟨_,q,hq,e⟩=>by rw [←e];exact h q hq,fun h q hq=>h _ ⟨hj,q,hq,rfl⟩⟩
theorem least {P:Nat→Prop} : ∀n,(∀j,j<n→¬P j)∨∃m,m<n∧P m∧∀j,j<m→¬P j
 | 0=>.inl (fun j h=>absurd h (by omega))
 | n+1=>by
  rcases least (P:=P) n with h| ⟨m,h1,h2,h3⟩
  ·by_cases hp:P n
   ·exact .inr ⟨n,by omega,hp,h⟩
   ·refine .inl (fun j hj=> ?_)
    by_cases e:j=n
    ·subst e;exact hp
    ·exact h j (by omega)
  ·exact .inr ⟨m,by omega,h2,h3⟩
structure OO (s:Sch) (w:World) (g:Nat) (bx:Obj) (wr:World) (v:Value) (D:List Nat) (os:List (Option Nat)) (S:Nat→Nat→Prop) :Prop where
 bo:BO w s.tabs.length g bx wr os S
 o:wr.ownsRow (w.heap.size+1) 3 1 v D.length ((D.map Int.ofNat).flatMap icells)
 hD: ∀j,j<s.tabs.length→j∈D→os[j]? = some none
 hN: ∀j,j<s.tabs.length→j ∉ D→∃b,os[j]? = some (some b)
 sets: ∀j,j<s.tabs.length→j ∉ D→∀t,S j t↔refs s j t∧t ∉ D
structure DL (s:Sch) (w:World) (g:Nat) (bx:Obj) (m p:Nat) (wr:World) (v:Value) (D:List Nat) (os:List (Option Nat)) (S:Nat→Nat→Prop) :Prop where
 bo:BO w s.tabs.length g bx wr os S
 o:wr.ownsRow (w.heap.size+1) 3 1 v (D ++ [m]).length (((D ++ [m]).map Int.ofNat).flatMap icells)
 hD: ∀j,j<s.tabs.length→j∈D ++ [m]→os[j]? = some none
 hN: ∀j,j<s.tabs.length→j ∉ D ++ [m]→∃b,os[j]? = some (some b)
 sets: ∀j,j<s.tabs.length→j ∉ D ++ [m]→∀t,S j t↔refs s j t∧t ∉ D∧(j<p→t≠m)
section
variable {s:Sch} {w wr w':World} {g m p b:Nat} {bx:Obj} {os:List (Option Nat)} {S:Nat→Nat→Prop} {v v':Value} {D:List Nat}
theorem P1.rounds (h:P1 s w g bx s.tabs.length wr os S) :OO s w g bx wr (.slice none 0 0) [] os S:=
 ⟨h.bo,World.ownsRow_nil _ _ _ _,fun j _ h=>(by cases h),fun j hj _=>h.has j hj,fun j hj _ t=>by rw [h.sets j hj t];simp [refs]⟩
theorem OO.below (h:OO s w g bx wr v D os S) (hb:Below wr.heap.size wr w') :OO s w g bx w' v D os S:=
 ⟨h.bo.below hb,h.o.kept (grown_of_below hb) (by cases v.ownBlock<;>simp),h.hD,h.hN,h.sets⟩
theorem OO.os_len (h:OO s w g bx wr v D os S) :os.length=s.tabs.length:=h.bo.len
theorem OO.empty (h:OO s w g bx wr v D os S) {f:Nat→Bool} (hf: ∀j,f j=true↔rdy (tgts s) D j) : ∀j (hj:j<os.length),emptyM wr os[j] (f j):=by
 intro j hj;have hjn:j<s.tabs.length:=by have:=h.os_len;omega
 by_cases hd:j∈D
 ·have h1:=h.hD j hjn hd
  rw [List.getElem?_eq_getElem hj]at h1;rw [Option.some.inj h1]
  show f j=false
  cases e:f j
  ·rfl
  ·exact absurd hd ((hf j).1 e).1
 ·obtain⟨b,hb⟩:=h.hN j hjn hd
  obtain⟨-,n,hm⟩:=h.bo.sets j b hb;rw [List.getElem?_eq_getElem hj]at hb;rw [Option.some.inj hb];refine⟨n,_,hm,?_⟩
  rw [hf,rdy_refs s D hjn]
  constructor
  ·rintro ⟨_,h2⟩ t ht
   have:=(h.sets j hjn hd t).1 ht;exact this.2 (h2 t this.1)
  ·intro h2
   refine⟨hd,fun t ht=> ?_⟩
   by_cases e:t∈D
   ·exact e
   ·exact absurd ((h.sets j hjn hd t).2 ⟨ht,e⟩) (h2 t)
theorem OO.ne (h:OO s w g bx wr v D os S) :v.ownBlock≠some g:=oown_ne (by decide) h.o h.bo.row
theorem OO.app (h:OO s w g bx wr v D os S) {x:Obj} (hg: (wr.alloc x).grownBy w' v.ownBlock) :BO w s.tabs.length g bx w' os S:=
 (h.bo.below (belA x)).other (h.o.alloc x) h.ne (Nat.le_refl _) hg
theorem OO.mark (h:OO s w g bx wr v D os S) {x:Obj} (hg: (wr.alloc x).grownBy w' v.ownBlock) (hm:m<s.tabs.length)
  (ho:w'.ownsRow (w.heap.size+1) 3 1 v' (D.length+1) ((D.map Int.ofNat).flatMap icells ++ [.int .i64 m])) :
  DL s w g bx m 0 (w'.setCell ⟨g,m,none⟩ (.map none)) v' D (os.set m none) S:=by
 have h1:=h.app hg;have hmo:m<os.length:=by have:=h.os_len;omega
 refine⟨h1.nil hm,?_,fun j hj hd=> ?_,fun j hj hd=> ?_,fun j hj hd t=> ?_⟩
 ·rw [List.length_append,List.map_append,List.flatMap_append]
  exact ho.kept (h1.row.stored m (.map none)).2 (.inr (oown_ne (by decide) ho h1.row))
 ·rw [set_at hmo]
  by_cases e:j=m
  ·rw [if_pos e]
  ·rw [if_neg e]
   rcases List.mem_append.1 hd with hd|hd
   ·exact h.hD j hj hd
   ·exact absurd (List.mem_singleton.1 hd) e
 ·have h2:j ∉ D:=fun h=>hd (List.mem_append_left _ h)
  have h3:j≠m:=fun h=>hd (List.mem_append_right _ (by rw [h];simp))
  rw [set_at hmo,if_neg h3];exact h.hN j hj h2
 ·rw [h.sets j hj (fun h=>hd (List.mem_append_left _ h)) t]
  exact and_congr Iff.rfl ⟨fun h=>⟨h,fun h=>absurd h (by omega)⟩,fun h=>h.1⟩
theorem DL.skip (h:DL s w g bx m p wr v D os S) (hp:os[p]? = some none) :DL s w g bx m (p+1) wr v D os S:=
 ⟨h.bo,h.o,h.hD,h.hN,fun j hj hd t=>by
  have:j≠p:=by
   rintro rfl;obtain⟨b,hb⟩:=h.hN j hj hd;rw [hp]at hb
   cases hb
  rw [h.sets j hj hd t];exact and_congr Iff.rfl (and_congr Iff.rfl ⟨fun h1 h2=>h1 (by omega),fun h1 h2=>h1 (by omega)⟩)⟩
theorem DL.strike (h:DL s w g bx m p wr v D os S) (hpn:p<s.tabs.length) (hp:os[p]? = some (some b)) {n:Nat} (hg:wr.grownBy w' (some b)) (hm:MS w' n b (fun t=>S p t∧t≠m)) : ∃S',DL s w g bx m (p+1) w' v D os S':=by
 obtain⟨-,n0,hm0⟩:=h.bo.sets p b hp;refine⟨fun j=>if j=p then fun t=>S p t∧t≠m else S j,h.bo.turn hg hp (m:=n) (by simpa using hm) (fun j hj=>by simp [hj]),h.o.kept hg (.inr (own_not_map h.o hm0)),h.hD,h.hN,fun j hj hd t=> ?_⟩
 by_cases e:j=p
 ·subst e
  simp only [if_pos];rw [h.sets j hj hd t]
  constructor
  ·rintro ⟨⟨h1,h2,_⟩,h3⟩;exact⟨h1,h2,fun _=>h3⟩
  ·rintro ⟨h1,h2,h3⟩;exact⟨⟨h1,h2,fun h=>absurd h (by omega)⟩,h3 (by omega)⟩
 ·simp only [if_neg e]
  rw [h.sets j hj hd t];exact and_congr Iff.rfl (and_congr Iff.rfl ⟨fun h1 h2=>h1 (by omega),fun h1 h2=>h1 (by omega)⟩)
theorem DL.done (h:DL s w g bx m s.tabs.length wr v D os S) :OO s w g bx wr v (D ++ [m]) os S:=
 ⟨h.bo,h.o,h.hD,h.hN,fun j hj hd t=>by
  rw [h.sets j hj hd t];refine and_congr Iff.rfl ⟨fun⟨h1,h2⟩ h3=> ?_,fun h1=>⟨fun h=>h1 (List.mem_append_left _ h),fun _ h=>h1 (List.mem_append_right _ (by rw [h];simp))⟩⟩
  rcases List.mem_append.1 h3 with h3|h3
  ·exact h1 h3
  ·exact h2 hj (List.mem_singleton.1 h3)⟩
theorem P2.cell {k q:Nat} (h:P2 s w g bx k q wr b os S) :wr.cell? ⟨g,k,none⟩ =some (.map (some b)):=by
 obtain⟨hk,e⟩:=List.getElem?_eq_some_iff.1 h.at';rw [h.bo.cell hk,e]
theorem DL.cell (h:DL s w g bx m p wr v D os S) {o:Option Nat} (hp:os[p]? = some o) :wr.cell? ⟨g,p,none⟩ =some (.map o):=by
 obtain⟨hk,e⟩:=List.getElem?_eq_some_iff.1 hp;rw [h.bo.cell hk,e]
end
end Go.Proofs.YtiijaaohphokcaaGreatDoor

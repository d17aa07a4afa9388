/- A part of the proof of AlgebraMade. -/
import Derived.Test.YtogalchclmmfgaaDoorP01
import Derived.Test.YtogalchclmmfgaaDoorP02
import Derived.Sort.EncStr
import Derived.Deep.DeepCutAuto
import Derived.Deep.CutBlock
import Derived.Maps.OwnSet
import Derived.Maps.RangeWalk
import Derived.Sort.KeysCollected
set_option maxRecDepth 100000
set_option maxHeartbeats 16000000
namespace Go.Proofs.YtogalchclmmfgaaDoor
open Go.RowKit
theorem boxA {w w1:World} {c d:Array Value} {T U:TypeId} (h:Below ((w.alloc (.cells c T)).alloc (.cells d U)).heap.size ((w.alloc (.cells c T)).alloc (.cells d U)) w1) {j:Nat} {v:Value} (hv:c[j]? = some v) :w1.cell? ⟨w.heap.size,j,none⟩ =some v:=by
 rw [h.cell (p:=⟨w.heap.size,j,none⟩) (by show w.heap.size<_;simp only [World.size_alloc];omega),World.cell?_alloc_lt _ _ _ (by show w.heap.size<_;simp only [World.size_alloc];omega),cell_of_row (w.alloc (.cells c T)) w.heap.size j c T (0,0) (heap_alloc_new w _)]
 exact hv
theorem boxB {w w1:World} {c d:Array Value} {T U:TypeId} (h:Below ((w.alloc (.cells c T)).alloc (.cells d U)).heap.size ((w.alloc (.cells c T)).alloc (.cells d U)) w1) {j:Nat} {v:Value} (hv:d[j]? = some v) :w1.cell? ⟨w.heap.size+1,j,none⟩ =some v:=by
 have:=box_cell (w:=w.alloc (.cells c T)) h hv
 simpa using this
def noEx:Ex:=⟨0,0,0,⟨#[]⟩,0,nilHd,[]⟩
def uT (q:Qu) :Bool:=!q.table.toList.isEmpty
def fnames:List (Nat×List UInt8):= [(4,[116,97,98,108,101]),(8,[107,105,110,100]),(11,[97,108,108]),(17,[99,111,110,100]),(22,[101,120,112,114,115]),(27,[97,103,103,115]),(32,[116,121,112,101,115]),(37,[114,111,119,115])]
noncomputable def used (q:Qu) :Nat→Bool
 | 4=>uT q
 | 8=>q.kind != 0
 | 11=>q.all
 | 17=> !eqb q.cond.er noEx.er
 | 22=>decide (0<q.exprs.length)
 | 27=>decide (0<q.aggs.length)
 | 32=>decide (0<q.types.l.length)
 | 37=>decide (0<q.rows.length)
 | _=>false
noncomputable def flds (q:Qu) :List (Nat×List UInt8×Bool):=fnames.map fun p=>(p.1,p.2,used q p.1)
noncomputable def cval (q:Qu) (h:Nat) :Nat→Value
 | 1=>.pointer (some ⟨h,1,none⟩)
 | 2=>.string q.table
 | 3=>.bool (uT q)
 | 5=>.pointer (some ⟨h,2,none⟩)
 | 6=>.int .i64 q.kind
 | 7=>.bool (q.kind != 0)
 | 9=>.pointer (some ⟨h,3,none⟩)
 | 10=>.bool q.all
 | 12=>.pointer (some ⟨h,4,none⟩)
 | 13=>.agg #[.int .i64 q.cond.op,.int .i64 q.cond.typ,.int .i64 q.cond.num,.string q.cond.text,.int .i64 q.cond.col,.slice q.cond.kh.ao q.cond.kids.length q.cond.kh.cap]
 | 14=>.agg #[.int .i64 0,.int .i64 0,.int .i64 0,.string ⟨#[]⟩,.int .i64 0,.slice none 0 0]
 | 15=>.bool (eqb q.cond.er noEx.er)
 | 16=>.bool (!eqb q.cond.er noEx.er)
 | 18=>.pointer (some ⟨h,10,none⟩)
 | 19=>.slice q.eh.ao q.exprs.length q.eh.cap
 | 20=>.int .i64 q.exprs.length
 | 21=>.bool (decide (0<q.exprs.length))
 | 23=>.pointer (some ⟨h,11,none⟩)
 | 24=>.slice q.ah.ao q.aggs.length q.ah.cap
 | 25=>.int .i64 q.aggs.length
 | 26=>.bool (decide (0<q.aggs.length))
 | 28=>.pointer (some ⟨h,12,none⟩)
 | 29=>.slice q.types.h.ao q.types.l.length q.types.h.cap
 | 30=>.int .i64 q.types.l.length
 | 31=>.bool (decide (0<q.types.l.length))
 | 33=>.pointer (some ⟨h,13,none⟩)
 | 34=>.slice q.rh.ao q.rows.length q.rh.cap
 | 35=>.int .i64 q.rows.length
 | 36=>.bool (decide (0<q.rows.length))
 | _=>undef
def ctbl:List (Nat×Nat):= [(1,8),(2,9),(3,10),(5,11),(6,12),(7,13),(9,14),(10,15),(12,16),(13,17),(14,18),(15,19),(16,20),(18,21),(19,22),(20,23),(21,24),(23,25),(24,26),(25,27),(26,28),(28,29),(29,30),(30,31),(31,32),(33,33),(34,34),(35,35),(36,36)]
theorem ctbl_inj: ∀p∈ctbl,∀p'∈ctbl,p.2=p'.2→p.1=p'.1:=by decide
structure CP (q:Qu) (h:Nat) (L:Nat→Bool) (s:Nat→Value) :Prop where
 pure: ∀p∈ctbl,L p.1=true→s p.2=cval q h p.1
theorem CP.put {q:Qu} {h:Nat} {L:Nat→Bool} {s:Nat→Value} (hc:CP q h L s) {i j:Nat} (hm: (i,j)∈ctbl) :CP q h (upd L i) (fun k=>if k=j then cval q h i else s k):=by
 refine⟨fun p hp hL=> ?_⟩
 by_cases e:p.1=i
 ·have:p= (i,j):=by
   have h1: ∀p∈ctbl,∀p'∈ctbl,p.1=p'.1→p.2=p'.2:=by decide
   have h2:=h1 p hp _ hm e;exact Prod.ext e h2
  subst this;simp
 ·have h2:p.2≠j:=fun h3=>e (ctbl_inj p hp _ hm h3)
  simp only [if_neg h2];refine hc.pure p hp ?_
  simpa [upd,e]using hL
theorem CP.skip {q:Qu} {h:Nat} {L:Nat→Bool} {s:Nat→Value} (hc:CP q h L s) {i:Nat} (hm: ∀p∈ctbl,p.1≠i) {t:Nat→Value} (ht: ∀p∈ctbl,t p.2=s p.2) :CP q h (upd L i) t:=
 ⟨fun p hp hL=>by rw [ht p hp];exact hc.pure p hp (by simpa [upd,hm p hp]using hL)⟩
def idxs:List Nat:= [4,8,11,17,22,27,32,37]
def cnt (L:Nat→Bool) :Nat:=idxs.countP L
theorem flds_mem {q:Qu} {e:Nat×List UInt8×Bool} (he:e∈flds q) : (e.1,e.2.1)∈fnames∧e.2.2=used q e.1:=by
 obtain⟨p,hp,rfl⟩:=List.mem_map.1 he;exact⟨hp,rfl⟩
theorem flds_idx (q:Qu) : ∀e∈flds q,e.1∈idxs:=by
 intro e he;have h: ∀p∈fnames,p.1∈idxs:=by decide
 exact h _ (flds_mem he).1
theorem flds_key (q:Qu) : ∀e∈flds q,∀e'∈flds q,e.2.1=e'.2.1→e=e':=by
 intro e he e' he' h;have h1: ∀p∈fnames,∀p'∈fnames,p.2=p'.2→p.1=p'.1:=by decide
 have h2:=h1 _ (flds_mem he).1 _ (flds_mem he').1 h;exact Prod.ext h2 (Prod.ext h (by rw [(flds_mem he).2,(flds_mem he').2,h2]))
theorem flds_no (q:Qu) : ∀e∈flds q,∀e'∈flds q,e.1=e'.1→e.2.1=e'.2.1:=by
 intro e he e' he' h;have h1: ∀p∈fnames,∀p'∈fnames,p.1=p'.1→p.2=p'.2:=by decide
 exact h1 _ (flds_mem he).1 _ (flds_mem he').1 h
theorem cnt_skip {L:Nat→Bool} {i:Nat} (hi:i ∉ idxs) :cnt (upd L i) =cnt L:=by
 unfold cnt
 refine List.countP_congr (fun x hx=> ?_)
 have:x≠i:=fun e=>hi (e▸hx)
 simp [upd,this]
theorem cnt_ins {L:Nat→Bool} {i:Nat} (hi:i∈idxs) (hL:L i=false) :cnt L+1≤cnt (upd L i):=by
 unfold cnt
 have key: ∀l:List Nat,l.countP L≤l.countP (upd L i)∧(i∈l→l.countP L+1≤l.countP (upd L i)):=by
  intro l
  induction l with
  | nil=>simp
  | cons x l ih=>
   have hmono:L x=true→upd L i x=true:=fun h=>by unfold upd;split<;>simp [h]
   rw [List.countP_cons,List.countP_cons];by_cases e:x=i
   ·subst e
    have h1:upd L x x=true:=by simp [upd]
    rw [hL,h1];simp;omega
   ·have h2:upd L i x=L x:=by simp [upd,e]
    rw [h2];refine⟨by omega,fun h=> ?_⟩
    rcases List.mem_cons.1 h with h|h
    ·exact absurd h.symm e
    ·have:=ih.2 h;omega
 exact(key idxs).2 hi
theorem cnt_le (L:Nat→Bool) :cnt L≤8:=Nat.le_trans List.countP_le_length (by decide)
theorem mem_ins2 {x p:Lit×DataW Unit} : ∀ {l:List (Lit×DataW Unit)},p∈DataW.insert x l→p=x∨p∈l
 | [],h=>by simp [DataW.insert]at h;exact .inl h
 | y :: r,h=>by
  unfold DataW.insert at h
  split at h
  ·rcases List.mem_cons.1 h with h|h
   ·exact .inl h
   ·exact .inr h
  ·rcases List.mem_cons.1 h with h|h
   ·exact .inr (by rw [h];simp)
   ·rcases mem_ins2 h with h|h
    ·exact .inl h
    ·exact .inr (List.mem_cons_of_mem _ h)
structure MF (q:Qu) (L:Nat→Bool) (D:DataW Unit) (es:List (Lit×DataW Unit)) :Prop where
 eq:D = .map es
 all: ∀p∈es,∃e∈flds q,L e.1=true∧p= (.string e.2.1,.lit (.bool e.2.2))
 has: ∀e∈flds q,L e.1=true→Maps.has D (.string e.2.1) =true
def MB (q:Qu) (w:World) (b:Nat) (L:Nat→Bool) :Prop:=∃D es,w.ownsMap Tryd.prog 9 (plainElem (H:=Unit) Tryd.prog 4) b (cnt L) D∧MF q L D es
theorem MB.skip {q:Qu} {w w':World} {b i:Nat} {L:Nat→Bool} {row:Option Nat} (h:MB q w b L) (hi:i ∉ idxs) (hg:w.grownBy w' row) (hne:some b≠row) :MB q w' b (upd L i):=by
 obtain⟨D,es,ho,hm⟩:=h;have hu: ∀e∈flds q,upd L i e.1=L e.1:=fun e he=>by
  have:e.1≠i:=fun h=>hi (h▸flds_idx q e he)
  simp [upd,this]
 refine⟨D,es,?_,hm.eq,fun p hp=> ?_,fun e he hL=> ?_⟩
 ·rw [cnt_skip hi];exact ho.kept hg hne
 ·obtain⟨e,he,h1,h2⟩:=hm.all p hp
  exact⟨e,he,by rw [hu e he];exact h1,h2⟩
 ·rw [hu e he]at hL;exact hm.has e he hL
theorem MF.at' {q:Qu} {D:DataW Unit} {es:List (Lit×DataW Unit)} (hm:MF q (fun _=>true) D es) {kl:Lit} (hh:Maps.has D kl=true) : ∃e∈flds q,kl = .string e.2.1∧∀zd,D.atKey kl zd = .lit (.bool e.2.2):=by
 obtain⟨rfl,hall,-⟩:=hm;rw [Maps.has_eq]at hh;obtain⟨p,hp,hs⟩:=List.any_eq_true.1 hh
 cases hf:es.find? (fun p=>p.1.sameKey kl)with
 | none=>exact absurd hs (by have:=List.find?_eq_none.1 hf p hp;exact this)
 | some p2=>
  obtain⟨e,he,-,rfl⟩:=hall p2 (List.mem_of_find?_eq_some hf);have h1:=List.find?_some hf;have h2:=WideAt.sameKey_eq h1;refine⟨e,he,h2.symm,fun zd=> ?_⟩
  simp [DataW.atKey,hf]
theorem keylit2 (l:List UInt8) :WideAt.IsKeyLit (.string l):=by simp [WideAt.IsKeyLit]
theorem MB.put {q:Qu} {w':World} {b:Nat} {L:Nat→Bool} {D:DataW Unit} {es:List (Lit×DataW Unit)} {e0:Nat×List UInt8×Bool} (he0:e0∈flds q) (hL0:L e0.1=false) (hm:MF q L D es)
  (ho:w'.ownsMap Tryd.prog 9 (plainElem (H:=Unit) Tryd.prog 4) b (cnt L+1) (D.put (.string e0.2.1) (.lit (.bool e0.2.2)))) :MB q w' b (upd L e0.1):=by
 have hup: ∀e∈flds q,L e.1=true→upd L e0.1 e.1=true:=fun e _ h=>by unfold upd;split<;>simp [h]
 obtain⟨rfl,hall,hhas⟩:=hm;refine⟨_,_,ho.mono (cnt_ins (flds_idx q e0 he0) hL0),rfl,fun p hp=> ?_,fun e he hL=> ?_⟩
 ·rcases mem_ins2 hp with rfl|hp
  ·exact⟨e0,he0,by simp [upd],rfl⟩
  ·obtain⟨e,he,h1,h2⟩:=hall p (List.mem_filter.1 hp).1
   exact⟨e,he,hup e he h1,h2⟩
 ·by_cases hk:e.2.1=e0.2.1
  ·rw [hk];exact Maps.has_put_same ⟨_,rfl⟩ (keylit2 _) _
  ·rw [Maps.has_put_other (fun h=>hk (by injection h))]
   refine hhas e he ?_
   have:e.1≠e0.1:=fun h=>by
    exact hk (flds_no q e he e0 he0 h)
   simpa [upd,this]using hL
structure CI (q:Qu) (h:Nat) (W:World) (L:Nat→Bool) (s:Nat→Value) (w':World) :Prop where
 cp:CP q h L s
 bw:Below W.heap.size W w'
 m0:L 0=true→∃b,s 7 = .map (some b)∧W.heap.size≤b∧MB q w' b L
 mv:L 38=true→s 37=s 7
 i0:L 0=false→∀i∈idxs,L i=false
 aft:L 38=true→∀i,i<38→L i=true
 aft2:L 39=true→L 38=true
 rg:L 39=true→(∀i,i<39→L i=true)∧∃b r D es,s 38 = .pointer (some ⟨r,0,none⟩)∧W.heap.size≤b∧W.heap.size≤r∧w'.ranges Tryd.prog 9 (plainElem (H:=Unit) Tryd.prog 4) b r (cnt L) D (Maps.has D) (Maps.size D)∧MF q (fun _=>true) D es
theorem below_grown {w w':World} (h:Below w.heap.size w w') :w.grownBy w' none:=⟨h.os,h.tape,h.output,h.size,fun k hk _=>h.block k hk⟩
theorem CI.pure {q:Qu} {h:Nat} {W w' w'':World} {L:Nat→Bool} {s:Nat→Value} (hI:CI q h W L s w') {i j:Nat} (hm: (i,j)∈ctbl) (hi:i ∉ idxs∧i≠0∧i<38∧j≠7∧j≠37∧j≠38) (hL:L i=false) (hb:Below w'.heap.size w' w'') :
  CI q h W (upd L i) (fun k=>if k=j then cval q h i else s k) w'':=by
 obtain⟨hi1,hi2,hi3,hj1,hj2,hj3⟩:=hi;have e7: (if 7=j then cval q h i else s 7) =s 7:=if_neg (fun h=>hj1 h.symm)
 have e37: (if 37=j then cval q h i else s 37) =s 37:=if_neg (fun h=>hj2 h.symm)
 have l0:upd L i 0=L 0:=by unfold upd;rw [if_neg (fun h=>hi2 h.symm)]
 have l38:upd L i 38=L 38:=by unfold upd;rw [if_neg (by omega)]
 have l39:upd L i 39=L 39:=by unfold upd;rw [if_neg (by omega)]
 refine⟨hI.cp.put hm,hI.bw.trans (hb.mono hI.bw.size),fun h0=> ?_,fun h1=> ?_,fun h0 k hk=> ?_,fun h1=> ?_,fun h1=> ?_,fun h1=> ?_⟩
 ·rw [l0]at h0
  obtain⟨b,h2,h3,h4⟩:=hI.m0 h0;exact⟨b,e7.trans h2,h3,h4.skip hi1 (below_grown hb) (by simp)⟩
 ·rw [l38]at h1
  exact e37.trans ((hI.mv h1).trans e7.symm)
 ·rw [l0]at h0
  have:=hI.i0 h0 k hk
  unfold upd
  rw [if_neg (fun e=>hi1 (by rw [←e];exact hk))]
  exact this
 ·rw [l38]at h1
  have:=hI.aft h1 i hi3;rw [hL]at this
  cases this
 ·rw [l39]at h1
  rw [l38];exact hI.aft2 h1
 ·rw [l39]at h1
  have:=(hI.rg h1).1 i (by omega)
  rw [hL]at this
  cases this
theorem CI.no {q:Qu} {h:Nat} {W w':World} {L:Nat→Bool} {s:Nat→Value} (hI:CI q h W L s w') {i:Nat} (hi:i<38) (hL:L i=false) :L 38=false∧L 39=false:=by
 have h1:L 38=false:=by
  cases h:L 38 with
  | false=>rfl
  | true=>have:=hI.aft h i hi;rw [hL]at this;cases this
 refine⟨h1,?_⟩
 cases h:L 39 with
 | false=>rfl
 | true=>have:=hI.aft2 h;rw [h1]at this;cases this
theorem CI.made {q:Qu} {h:Nat} {W w':World} {L:Nat→Bool} {s:Nat→Value} (hI:CI q h W L s w') (hL:L 0=false) :
  CI q h W (upd L 0) (fun k=>if k=7 then .map (some w'.heap.size) else s k) (w'.alloc (.map #[] 0)):=by
 obtain⟨n38,n39⟩:=hI.no (by decide) hL
 have l38:upd L 0 38=false:=by unfold upd;rw [if_neg (by decide)];exact n38
 have l39:upd L 0 39=false:=by unfold upd;rw [if_neg (by decide)];exact n39
 have hno: ∀k∈idxs,upd L 0 k=false:=fun k hk=>by
  have h0: ∀k∈idxs,k≠0:=by decide
  unfold upd
  rw [if_neg (h0 k hk)];exact hI.i0 hL k hk
 refine⟨hI.cp.skip (by decide) (fun p hp=> ?_),hI.bw.alloc hI.bw.size _,fun _=>⟨w'.heap.size,by simp,hI.bw.size,.map [],[],?_,rfl,fun p hp=>(by cases hp),fun e he h1=> ?_⟩,fun h1=> ?_,fun h1=> ?_,fun h1=> ?_,fun h1=> ?_,fun h1=> ?_⟩
 ·have h7: ∀p∈ctbl,p.2≠7:=by decide
  simp [h7 p hp]
 ·exact(World.ownsMap_made w' _ _ _).mono (Nat.zero_le _)
 ·rw [hno e.1 (flds_idx q e he)]at h1;cases h1
 ·rw [l38]at h1;cases h1
 ·simp [upd]at h1
 ·rw [l38]at h1;cases h1
 ·rw [l39]at h1;cases h1
 ·rw [l39]at h1;cases h1
theorem CI.ins {q:Qu} {h:Nat} {W w' w'':World} {L:Nat→Bool} {s:Nat→Value} (hI:CI q h W L s w') {e:Nat×List UInt8×Bool} (he:e∈flds q) (hi:e.1<38) (hc: ∀p∈ctbl,p.1≠e.1) (h0:L 0=true) (hL:L e.1=false)
  {b:Nat} (h7:s 7 = .map (some b)) (hb:W.heap.size≤b) {D:DataW Unit} {es:List (Lit×DataW Unit)} (hm:MF q L D es) (hg:w'.grownBy w'' (some b))
  (ho:w''.ownsMap Tryd.prog 9 (plainElem (H:=Unit) Tryd.prog 4) b (cnt L+1) (D.put (.string e.2.1) (.lit (.bool e.2.2)))) :CI q h W (upd L e.1) s w'':=by
 obtain⟨n38,n39⟩:=hI.no hi hL;have l38:upd L e.1 38=false:=by unfold upd;rw [if_neg (by omega)];exact n38
 have l39:upd L e.1 39=false:=by unfold upd;rw [if_neg (by omega)];exact n39
 have l0:upd L e.1 0=true:=by unfold upd;split<;>simp [h0]
 refine⟨hI.cp.skip hc (fun _ _=>rfl),hI.bw.grown hg hI.bw.size (fun k hk=>by cases hk;exact hb),fun _=>⟨b,h7,hb,MB.put he hL hm ho⟩,fun h1=> ?_,fun h1=> ?_,fun h1=> ?_,fun h1=> ?_,fun h1=> ?_⟩
 ·rw [l38]at h1;cases h1
 ·rw [l0]at h1;cases h1
 ·rw [l38]at h1;cases h1
 ·rw [l39]at h1;cases h1
 ·rw [l39]at h1;cases h1
theorem CI.move {q:Qu} {h:Nat} {W w':World} {L:Nat→Bool} {s:Nat→Value} (hI:CI q h W L s w') (hL:L 38=false) (hall: ∀i,i<38→L i=true) :CI q h W (upd L 38) (fun k=>if k=37 then s 7 else s k) w':=by
 have l39:upd L 38 39=false:=by
  unfold upd;rw [if_neg (by decide)]
  cases h:L 39 with
  | false=>rfl
  | true=>have:=hI.aft2 h;rw [hL]at this;cases this
 have l0:upd L 38 0=true:=by unfold upd;rw [if_neg (by decide)];exact hall 0 (by decide)
 refine⟨hI.cp.skip (by decide) (fun p hp=> ?_),hI.bw,fun _=> ?_,fun _=>by simp,fun h1=> ?_,fun _ i hi=> ?_,fun h1=> ?_,fun h1=> ?_⟩
 ·have h7: ∀p∈ctbl,p.2≠37:=by decide
  simp [h7 p hp]
 ·obtain⟨b,h1,h2,h3⟩:=hI.m0 (hall 0 (by decide))
  exact⟨b,by simpa using h1,h2,h3.skip (row:=none) (by decide) ⟨rfl,rfl,rfl,Nat.le_refl _,fun _ _ _=>rfl⟩ (by simp)⟩
 ·rw [l0]at h1;cases h1
 ·unfold upd;rw [if_neg (by omega)];exact hall i hi
 ·rw [l39]at h1;cases h1
 ·rw [l39]at h1;cases h1
theorem CI.rng {q:Qu} {h:Nat} {W w' w'':World} {L:Nat→Bool} {s:Nat→Value} (hI:CI q h W L s w') (h38:L 38=true) {b:Nat} (h7:s 7 = .map (some b)) (hb:W.heap.size≤b) {D:DataW Unit} {es:List (Lit×DataW Unit)} (hm:MF q L D es)
  (hr:w''.ranges Tryd.prog 9 (plainElem (H:=Unit) Tryd.prog 4) b w'.heap.size (cnt L) D (Maps.has D) (Maps.size D)) (hg:w'.grownBy w'' none) :CI q h W (upd L 39) (fun k=>if k=38 then .pointer (some ⟨w'.heap.size,0,none⟩) else s k) w'':=by
 have hall: ∀i,i<39→L i=true:=fun i hi=>by
  by_cases e:i=38
  ·subst e;exact h38
  ·exact hI.aft h38 i (by omega)
 have hup: ∀i,i<39→upd L 39 i=true:=fun i hi=>by unfold upd;rw [if_neg (by omega)];exact hall i hi
 have hix: ∀i∈idxs,i<39:=by decide
 have hmf:MF q (fun _=>true) D es:=⟨hm.eq,fun p hp=>by obtain⟨e,he,_,h2⟩:=hm.all p hp;exact⟨e,he,rfl,h2⟩,fun e he _=>hm.has e he (hall _ (hix _ (flds_idx q e he)))⟩
 have hcnt:cnt (upd L 39) =cnt L:=cnt_skip (by decide)
 refine⟨hI.cp.skip (by decide) (fun p hp=> ?_),hI.bw.grown hg hI.bw.size (fun k hk=>by cases hk),fun _=>⟨b,by simpa using h7,hb,?_⟩,fun _=> ?_,fun h1=> ?_,fun _ i hi=>hup i (by omega),fun _=>hup 38 (by decide),fun _=>⟨hup,b,w'.heap.size,D,es,by simp,hb,hI.bw.size,by rw [hcnt];exact hr,hmf⟩⟩
 ·have h7: ∀p∈ctbl,p.2≠38:=by decide
  simp [h7 p hp]
 ·exact⟨D,es,by rw [hcnt];exact hr.owns,hm.eq,fun p hp=>by obtain⟨e,he,_,h2⟩:=hm.all p hp;exact⟨e,he,hup _ (hix _ (flds_idx q e he)),h2⟩,fun e he _=>hm.has e he (hall _ (hix _ (flds_idx q e he)))⟩
 ·simpa using hI.mv h38
 ·rw [hup 0 (by decide)]at h1;cases h1
theorem i64_0:int64 0:=⟨by decide,by decide⟩
theorem noEx_in (w:World) :noEx.In w:=
 Ex.In.mk noEx ⟨i64_0,i64_0,i64_0,Nat.zero_le _,i64_0⟩ (Row.nil _ _ _) (fun k (hk:k∈([] :List Ex))=>absurd hk List.not_mem_nil)
theorem plain_bool {H:Type} {P:Program} {e:TypeId} (he:P.underlying e=some .bool) {v:Value} {y:DataW H×List MemPlace} (hv:plainElem P e v=some y) : ∃c,v = .bool c∧y= (.lit (.bool c),[]):=by
 unfold plainElem at hv
 rw [he]at hv
 cases v<;>simp at hv
 exact⟨_,rfl,hv.symm⟩
noncomputable def inUses (fu:ByteArray) (x:List UInt8) :Bool:=Lib.contains (32 :: (fu.data.toList ++ [32])) (32 :: (x ++ [32]))
def okK (q:Qu) (fu:ByteArray) (kl:Lit) :Prop:=∀e∈flds q,kl = .string e.2.1→e.2.2=true→inUses fu e.2.1=true
noncomputable def cleanB (q:Qu) (fu:ByteArray) :Bool:=(flds q).all fun e=> !e.2.2 || inUses fu e.2.1
theorem opwp_K {P:Program} {o:Oper} {a:Act} {w:World} {K:Act→World→Prop} {Q:Exit→Act→World→Prop} (h: ∀K':Act→World→Prop,(∀a w,K a w→K' a w)→o.wp P a w K' Q) :o.wp P a w K Q:=h K (fun _ _ h=>h)
theorem clean_any (q:Qu) (fw fu:ByteArray) (fk:Int) (w:World) (hin:q.In w) (hfu:fu.size≤100) (hsh:w.ShapedOpen Tryd.prog) :
  Calls Tryd.prog 61 #[.agg #[.int .i64 q.op,.string q.table,.int .i64 q.kind,.bool q.all,.int .i64 q.cond.op,.int .i64 q.cond.typ,.int .i64 q.cond.num,.string q.cond.text,.int .i64 q.cond.col,.slice q.cond.kh.ao q.cond.kids.length q.cond.kh.cap,.slice q.eh.ao q.exprs.length q.eh.cap,.slice q.ah.ao q.aggs.length q.ah.cap,.slice q.types.h.ao q.types.l.length q.types.h.cap,.slice q.rh.ao q.rows.length q.rh.cap,.slice q.qh.ao q.kids.length q.qh.cap],.agg #[.string fw,.int .i64 fk,.string fu]] w fun e w'=>e = .returned (.bool (cleanB q fu))∧Below w.heap.size w w':=by
 have HIN:=ai (hin.mono (belAA (.cells q.lit 57) (.cells #[.string fw,.int .i64 fk,.string fu] 103)))
 go_enter Tryd.func61,Tryd.ntmps61;go_upto_region 1 with(fail)
 have hW0:=belAA (w:=w) (.cells q.lit 57) (.cells #[.string fw,.int .i64 fk,.string fu] 103)
 have HB0:=ai hW0;clear hW0;have HX:=ai (show∀w':World,Below ((w.alloc (.cells q.lit 57)).alloc (.cells #[.string fw,.int .i64 fk,.string fu] 103)).heap.size ((w.alloc (.cells q.lit 57)).alloc (.cells #[.string fw,.int .i64 fk,.string fu] 103)) w'→∀(j:Nat) (v:Value),(#[.int .i64 q.op,.string q.table,.int .i64 q.kind,.bool q.all,.int .i64 q.cond.op,.int .i64 q.cond.typ,.int .i64 q.cond.num,.string q.cond.text,.int .i64 q.cond.col,.slice q.cond.kh.ao q.cond.kids.length q.cond.kh.cap,.slice q.eh.ao q.exprs.length q.eh.cap,.slice q.ah.ao q.aggs.length q.ah.cap,.slice q.types.h.ao q.types.l.length q.types.h.cap,.slice q.rh.ao q.rows.length q.rh.cap,.slice q.qh.ao q.kids.length q.qh.cap] :Array Value)[j]? = some v→w'.cell? ⟨w.heap.size,j,none⟩ =some v from fun w' h j v hv=>boxA h hv)
 have HF:=ai (show∀w':World,Below ((w.alloc (.cells q.lit 57)).alloc (.cells #[.string fw,.int .i64 fk,.string fu] 103)).heap.size ((w.alloc (.cells q.lit 57)).alloc (.cells #[.string fw,.int .i64 fk,.string fu] 103)) w'→∀(j:Nat) (v:Value),(#[.string fw,.int .i64 fk,.string fu] :Array Value)[j]? = some v→w'.cell? ⟨w.heap.size+1,j,none⟩ =some v from fun w' h j v hv=>boxB h hv)
 have HSZ:=ai (show((w.alloc (.cells q.lit 57)).alloc (.cells #[.string fw,.int .i64 fk,.string fu] 103)).heap.size=w.heap.size+2 by simp)
 generalize (w.alloc (.cells q.lit 57)).alloc (.cells #[.string fw,.int .i64 fk,.string fu] 103) =W at *;refine wp_region_ok (by kernel_rfl) (by kernel_rfl) (fun L a w'=>∃s:Nat→Value,a= ⟨#[.agg #[.int .i64 q.op,.string q.table,.int .i64 q.kind,.bool q.all,.int .i64 q.cond.op,.int .i64 q.cond.typ,.int .i64 q.cond.num,.string q.cond.text,.int .i64 q.cond.col,.slice q.cond.kh.ao q.cond.kids.length q.cond.kh.cap,.slice q.eh.ao q.exprs.length q.eh.cap,.slice q.ah.ao q.aggs.length q.ah.cap,.slice q.types.h.ao q.types.l.length q.types.h.cap,.slice q.rh.ao q.rows.length q.rh.cap,.slice q.qh.ao q.kids.length q.qh.cap],.agg #[.string fw,.int .i64 fk,.string fu],.pointer (some ⟨w.heap.size,0,none⟩),.pointer (some ⟨w.heap.size+1,0,none⟩),.bool false,undef,undef,s 7,s 8,s 9,s 10,s 11,s 12,s 13,s 14,s 15,s 16,s 17,s 18,s 19,s 20,s 21,s 22,s 23,s 24,s 25,s 26,s 27,s 28,s 29,s 30,s 31,s 32,s 33,s 34,s 35,s 36,s 37,s 38,undef,undef,undef,undef,undef,undef,undef,undef,undef,undef,undef,undef,undef,undef,undef,undef,undef],[]⟩∧Hid (CI q w.heap.size W L s w')) ?h0 ?step ?fin
 case h0=>exact⟨fun _=>undef,rfl,⟨fun p _ h=>(by cases h)⟩,(Below.refl _ _).drew,fun h=>(by cases h),fun h=>(by cases h),fun _ _ _=>rfl,fun h=>(by cases h),fun h=>(by cases h),fun h=>(by cases h)⟩
 case step=>
  intro i o L a w' ho hL he hinv;obtain⟨s,rfl,hI⟩:=hinv;have hlt:i<40:=(Array.getElem?_eq_some_iff.1 ho).1;have hcase:i=0∨i=1∨i=2∨i=3∨i=4∨i=5∨i=6∨i=7∨i=8∨i=9∨i=10∨i=11∨i=12∨i=13∨i=14∨i=15∨i=16∨i=17∨i=18∨i=19∨i=20∨i=21∨i=22∨i=23∨i=24∨i=25∨i=26∨i=27∨i=28∨i=29∨i=30∨i=31∨i=32∨i=33∨i=34∨i=35∨i=36∨i=37∨i=38∨i=39:=by omega
  rcases hcase with rfl|rfl|rfl|rfl|rfl|rfl|rfl|rfl|rfl|rfl|rfl|rfl|rfl|rfl|rfl|rfl|rfl|rfl|rfl|rfl|rfl|rfl|rfl|rfl|rfl|rfl|rfl|rfl|rfl|rfl|rfl|rfl|rfl|rfl|rfl|rfl|rfl|rfl|rfl|rfl
  ·injection ho with ho
   subst ho;have hmm:=@run_makeMap Tryd.prog;refine opwp_K (fun K2 hK2=> ?_)
   go_simp
   exact hK2 _ _ ⟨fun k=>if k=7 then .map (some w'.heap.size) else s k,rfl,ai (hI.o.made hL)⟩
  ·injection ho with ho
   subst ho;refine opwp_K (fun K2 hK2=> ?_)
   go_simp
   exact hK2 _ _ ⟨fun k=>if k=8 then cval q w.heap.size 1 else s k,by first|rfl| (simp [CP];done) | (simp [CP,cval];done) | (simp [CP,cval,uT];done),ai (hI.o.pure (i:=1) (j:=8) (by decide) (by decide) hL (Below.refl _ _))⟩
  ·injection ho with ho
   subst ho;have d1:L 1=true:=he ⟨1,.data⟩ (by simp) rfl
   have f1:=hI.o.cp.pure (1,8) (by decide) d1
   simp only [cval]at f1;have x1:=HX.o _ hI.o.bw 1 _ rfl;refine opwp_K (fun K2 hK2=> ?_)
   go_simp
   exact hK2 _ _ ⟨fun k=>if k=9 then cval q w.heap.size 2 else s k,by first|rfl| (simp [f1];done) | (simp [f1,cval];done) | (simp [f1,cval,uT];done),ai (hI.o.pure (i:=2) (j:=9) (by decide) (by decide) hL (Below.refl _ _))⟩
  ·injection ho with ho
   subst ho;have d2:L 2=true:=he ⟨2,.data⟩ (by simp) rfl
   have f2:=hI.o.cp.pure (2,9) (by decide) d2
   simp only [cval]at f2;refine opwp_K (fun K2 hK2=> ?_)
   go_simp
   exact hK2 _ _ ⟨fun k=>if k=10 then cval q w.heap.size 3 else s k,by first|rfl| (simp [f2];done) | (simp [f2,cval];done) | (simp [f2,cval,uT];done),ai (hI.o.pure (i:=3) (j:=10) (by decide) (by decide) hL (Below.refl _ _))⟩
  ·injection ho with ho
   subst ho;have d0:L 0=true:=he ⟨0,.data⟩ (by simp) rfl
   have dS:L 3=true:=he ⟨3,.data⟩ (by simp) rfl
   have fS:=hI.o.cp.pure (3,10) (by decide) dS
   simp only [cval]at fS;obtain⟨b,h7,hb,D,es,hown,hmf⟩:=hI.o.m0 d0;have hcl:=cnt_le L;obtain⟨w2,hrun,ho2,ht2⟩:=hown.store (Maps.string_keyed Tryd.underlying9) Tryd.underlying127 (by unfold maxLen;omega) (key:=.string ⟨#[116,97,98,108,101]⟩) (kl:=.string [116,97,98,108,101]) (Go.WideMaps.keyOf_string_mk Tryd.underlying9 (s:=⟨#[116,97,98,108,101]⟩) (by decide)) (plainElem_bool Tryd.underlying4 (uT q))
   have HMF:=ai hmf;have HO2:=ai ho2;have HT2:=ai ht2;clear hmf ho2 ht2 hown hcl;refine opwp_K (fun K2 hK2=> ?_)
   go_simp
   exact hK2 _ _ ⟨s,by first|rfl| (simp [h7,fS];done),ai (hI.o.ins (e:=(4,[116,97,98,108,101],uT q)) (List.mem_map.2 ⟨(4,[116,97,98,108,101]),by decide,rfl⟩) (show 4<38 by decide) (show∀p∈ctbl,p.1≠4 by decide) d0 hL h7 hb HMF.o HT2.o.grown HO2.o)⟩
  ·injection ho with ho
   subst ho;refine opwp_K (fun K2 hK2=> ?_)
   go_simp
   exact hK2 _ _ ⟨fun k=>if k=11 then cval q w.heap.size 5 else s k,by first|rfl| (simp [CP];done) | (simp [CP,cval];done) | (simp [CP,cval,uT];done),ai (hI.o.pure (i:=5) (j:=11) (by decide) (by decide) hL (Below.refl _ _))⟩
  ·injection ho with ho
   subst ho;have d5:L 5=true:=he ⟨5,.data⟩ (by simp) rfl
   have f5:=hI.o.cp.pure (5,11) (by decide) d5
   simp only [cval]at f5;have x2:=HX.o _ hI.o.bw 2 _ rfl;refine opwp_K (fun K2 hK2=> ?_)
   go_simp
   exact hK2 _ _ ⟨fun k=>if k=12 then cval q w.heap.size 6 else s k,by first|rfl| (simp [f5];done) | (simp [f5,cval];done) | (simp [f5,cval,uT];done),ai (hI.o.pure (i:=6) (j:=12) (by decide) (by decide) hL (Below.refl _ _))⟩
  ·injection ho with ho
   subst ho;have d6:L 6=true:=he ⟨6,.data⟩ (by simp) rfl
   have f6:=hI.o.cp.pure (6,12) (by decide) d6
   simp only [cval]at f6;refine opwp_K (fun K2 hK2=> ?_)
   go_simp
   exact hK2 _ _ ⟨fun k=>if k=13 then cval q w.heap.size 7 else s k,by first|rfl| (simp [f6];done) | (simp [f6,cval];done) | (simp [f6,cval,uT];done),ai (hI.o.pure (i:=7) (j:=13) (by decide) (by decide) hL (Below.refl _ _))⟩
  ·injection ho with ho
   subst ho;have d0:L 0=true:=he ⟨0,.data⟩ (by simp) rfl
   have dS:L 7=true:=he ⟨7,.data⟩ (by simp) rfl
   have fS:=hI.o.cp.pure (7,13) (by decide) dS
   simp only [cval]at fS;obtain⟨b,h7,hb,D,es,hown,hmf⟩:=hI.o.m0 d0;have hcl:=cnt_le L;obtain⟨w2,hrun,ho2,ht2⟩:=hown.store (Maps.string_keyed Tryd.underlying9) Tryd.underlying127 (by unfold maxLen;omega) (key:=.string ⟨#[107,105,110,100]⟩) (kl:=.string [107,105,110,100]) (Go.WideMaps.keyOf_string_mk Tryd.underlying9 (s:=⟨#[107,105,110,100]⟩) (by decide)) (plainElem_bool Tryd.underlying4 (q.kind != 0))
   have HMF:=ai hmf;have HO2:=ai ho2;have HT2:=ai ht2;clear hmf ho2 ht2 hown hcl;refine opwp_K (fun K2 hK2=> ?_)
   go_simp
   exact hK2 _ _ ⟨s,by first|rfl| (simp [h7,fS];done),ai (hI.o.ins (e:=(8,[107,105,110,100],q.kind != 0)) (List.mem_map.2 ⟨(8,[107,105,110,100]),by decide,rfl⟩) (show 8<38 by decide) (show∀p∈ctbl,p.1≠8 by decide) d0 hL h7 hb HMF.o HT2.o.grown HO2.o)⟩
  ·injection ho with ho
   subst ho;refine opwp_K (fun K2 hK2=> ?_)
   go_simp
   exact hK2 _ _ ⟨fun k=>if k=14 then cval q w.heap.size 9 else s k,by first|rfl| (simp [CP];done) | (simp [CP,cval];done) | (simp [CP,cval,uT];done),ai (hI.o.pure (i:=9) (j:=14) (by decide) (by decide) hL (Below.refl _ _))⟩
  ·injection ho with ho
   subst ho;have d9:L 9=true:=he ⟨9,.data⟩ (by simp) rfl
   have f9:=hI.o.cp.pure (9,14) (by decide) d9
   simp only [cval]at f9;have x3:=HX.o _ hI.o.bw 3 _ rfl;refine opwp_K (fun K2 hK2=> ?_)
   go_simp
   exact hK2 _ _ ⟨fun k=>if k=15 then cval q w.heap.size 10 else s k,by first|rfl| (simp [f9];done) | (simp [f9,cval];done) | (simp [f9,cval,uT];done),ai (hI.o.pure (i:=10) (j:=15) (by decide) (by decide) hL (Below.refl _ _))⟩
  ·injection ho with ho
   subst ho;have d0:L 0=true:=he ⟨0,.data⟩ (by simp) rfl
   have dS:L 10=true:=he ⟨10,.data⟩ (by simp) rfl
   have fS:=hI.o.cp.pure (10,15) (by decide) dS
   simp only [cval]at fS;obtain⟨b,h7,hb,D,es,hown,hmf⟩:=hI.o.m0 d0;have hcl:=cnt_le L;obtain⟨w2,hrun,ho2,ht2⟩:=hown.store (Maps.string_keyed Tryd.underlying9) Tryd.underlying127 (by unfold maxLen;omega) (key:=.string ⟨#[97,108,108]⟩) (kl:=.string [97,108,108]) (Go.WideMaps.keyOf_string_mk Tryd.underlying9 (s:=⟨#[97,108,108]⟩) (by decide)) (plainElem_bool Tryd.underlying4 (q.all))
   have HMF:=ai hmf;have HO2:=ai ho2;have HT2:=ai ht2;clear hmf ho2 ht2 hown hcl;refine opwp_K (fun K2 hK2=> ?_)
   go_simp
   exact hK2 _ _ ⟨s,by first|rfl| (simp [h7,fS];done),ai (hI.o.ins (e:=(11,[97,108,108],q.all)) (List.mem_map.2 ⟨(11,[97,108,108]),by decide,rfl⟩) (show 11<38 by decide) (show∀p∈ctbl,p.1≠11 by decide) d0 hL h7 hb HMF.o HT2.o.grown HO2.o)⟩
  ·injection ho with ho
   subst ho;refine opwp_K (fun K2 hK2=> ?_)
   go_simp
   exact hK2 _ _ ⟨fun k=>if k=16 then cval q w.heap.size 12 else s k,by first|rfl| (simp [CP];done) | (simp [CP,cval];done) | (simp [CP,cval,uT];done),ai (hI.o.pure (i:=12) (j:=16) (by decide) (by decide) hL (Below.refl _ _))⟩
  ·injection ho with ho
   subst ho;have d12:L 12=true:=he ⟨12,.data⟩ (by simp) rfl
   have f12:=hI.o.cp.pure (12,16) (by decide) d12
   simp only [cval]at f12;have x4:=HX.o _ hI.o.bw 4 _ rfl;have x5:=HX.o _ hI.o.bw 5 _ rfl;have x6:=HX.o _ hI.o.bw 6 _ rfl;have x7:=HX.o _ hI.o.bw 7 _ rfl;have x8:=HX.o _ hI.o.bw 8 _ rfl;have x9:=HX.o _ hI.o.bw 9 _ rfl;refine opwp_K (fun K2 hK2=> ?_)
   go_simp
   exact hK2 _ _ ⟨fun k=>if k=17 then cval q w.heap.size 13 else s k,by first|rfl| (simp [f12];done) | (simp [f12,cval];done) | (simp [f12,cval,uT];done),ai (hI.o.pure (i:=13) (j:=17) (by decide) (by decide) hL (Below.refl _ _))⟩
  ·injection ho with ho
   subst ho;refine opwp_K (fun K2 hK2=> ?_)
   go_simp
   exact hK2 _ _ ⟨fun k=>if k=18 then cval q w.heap.size 14 else s k,by first|rfl| (simp [CP];done) | (simp [CP,cval];done) | (simp [CP,cval,uT];done),ai (hI.o.pure (i:=14) (j:=18) (by decide) (by decide) hL (Below.refl _ _))⟩
  ·injection ho with ho
   subst ho;have d13:L 13=true:=he ⟨13,.data⟩ (by simp) rfl
   have f13:=hI.o.cp.pure (13,17) (by decide) d13
   simp only [cval]at f13;have d14:L 14=true:=he ⟨14,.data⟩ (by simp) rfl
   have f14:=hI.o.cp.pure (14,18) (by decide) d14
   simp only [cval]at f14;refine opwp_K (fun K2 hK2=> ?_)
   go_simp
   go_at_call 91
   refine(esame_any HIN.o.flat.cd noEx _ (HIN.o.flat.cd.mono hI.o.bw) (noEx_in _)).mono ?_
   rintro e w2 ⟨rfl,hb⟩;exact hK2 _ _ ⟨fun k=>if k=19 then cval q w.heap.size 15 else s k,by first|rfl| (simp [f13,f14];done) | (simp [f13,f14,cval];done),ai (hI.o.pure (i:=15) (j:=19) (by decide) (by decide) hL hb)⟩
  ·injection ho with ho
   subst ho;have d15:L 15=true:=he ⟨15,.data⟩ (by simp) rfl
   have f15:=hI.o.cp.pure (15,19) (by decide) d15
   simp only [cval]at f15;refine opwp_K (fun K2 hK2=> ?_)
   go_simp
   exact hK2 _ _ ⟨fun k=>if k=20 then cval q w.heap.size 16 else s k,by first|rfl| (simp [f15];done) | (simp [f15,cval];done) | (simp [f15,cval,uT];done),ai (hI.o.pure (i:=16) (j:=20) (by decide) (by decide) hL (Below.refl _ _))⟩
  ·injection ho with ho
   subst ho;have d0:L 0=true:=he ⟨0,.data⟩ (by simp) rfl
   have dS:L 16=true:=he ⟨16,.data⟩ (by simp) rfl
   have fS:=hI.o.cp.pure (16,20) (by decide) dS
   simp only [cval]at fS;obtain⟨b,h7,hb,D,es,hown,hmf⟩:=hI.o.m0 d0;have hcl:=cnt_le L;obtain⟨w2,hrun,ho2,ht2⟩:=hown.store (Maps.string_keyed Tryd.underlying9) Tryd.underlying127 (by unfold maxLen;omega) (key:=.string ⟨#[99,111,110,100]⟩) (kl:=.string [99,111,110,100]) (Go.WideMaps.keyOf_string_mk Tryd.underlying9 (s:=⟨#[99,111,110,100]⟩) (by decide)) (plainElem_bool Tryd.underlying4 (!eqb q.cond.er noEx.er))
   have HMF:=ai hmf;have HO2:=ai ho2;have HT2:=ai ht2;clear hmf ho2 ht2 hown hcl;refine opwp_K (fun K2 hK2=> ?_)
   go_simp
   exact hK2 _ _ ⟨s,by first|rfl| (simp [h7,fS];done),ai (hI.o.ins (e:=(17,[99,111,110,100],!eqb q.cond.er noEx.er)) (List.mem_map.2 ⟨(17,[99,111,110,100]),by decide,rfl⟩) (show 17<38 by decide) (show∀p∈ctbl,p.1≠17 by decide) d0 hL h7 hb HMF.o HT2.o.grown HO2.o)⟩
  ·injection ho with ho
   subst ho;refine opwp_K (fun K2 hK2=> ?_)
   go_simp
   exact hK2 _ _ ⟨fun k=>if k=21 then cval q w.heap.size 18 else s k,by first|rfl| (simp [CP];done) | (simp [CP,cval];done) | (simp [CP,cval,uT];done),ai (hI.o.pure (i:=18) (j:=21) (by decide) (by decide) hL (Below.refl _ _))⟩
  ·injection ho with ho
   subst ho;have d18:L 18=true:=he ⟨18,.data⟩ (by simp) rfl
   have f18:=hI.o.cp.pure (18,21) (by decide) d18
   simp only [cval]at f18;have x10:=HX.o _ hI.o.bw 10 _ rfl;refine opwp_K (fun K2 hK2=> ?_)
   go_simp
   exact hK2 _ _ ⟨fun k=>if k=22 then cval q w.heap.size 19 else s k,by first|rfl| (simp [f18];done) | (simp [f18,cval];done) | (simp [f18,cval,uT];done),ai (hI.o.pure (i:=19) (j:=22) (by decide) (by decide) hL (Below.refl _ _))⟩
  ·injection ho with ho
   subst ho;have d19:L 19=true:=he ⟨19,.data⟩ (by simp) rfl
   have f19:=hI.o.cp.pure (19,22) (by decide) d19
   simp only [cval]at f19;refine opwp_K (fun K2 hK2=> ?_)
   go_simp
   exact hK2 _ _ ⟨fun k=>if k=23 then cval q w.heap.size 20 else s k,by first|rfl| (simp [f19];done) | (simp [f19,cval];done) | (simp [f19,cval,uT];done),ai (hI.o.pure (i:=20) (j:=23) (by decide) (by decide) hL (Below.refl _ _))⟩
  ·injection ho with ho
   subst ho;have d20:L 20=true:=he ⟨20,.data⟩ (by simp) rfl
   have f20:=hI.o.cp.pure (20,23) (by decide) d20
   simp only [cval]at f20;refine opwp_K (fun K2 hK2=> ?_)
   go_simp
   exact hK2 _ _ ⟨fun k=>if k=24 then cval q w.heap.size 21 else s k,by first|rfl| (simp [f20];done) | (simp [f20,cval];done) | (simp [f20,cval,uT];done),ai (hI.o.pure (i:=21) (j:=24) (by decide) (by decide) hL (Below.refl _ _))⟩
  ·injection ho with ho
   subst ho;have d0:L 0=true:=he ⟨0,.data⟩ (by simp) rfl
   have dS:L 21=true:=he ⟨21,.data⟩ (by simp) rfl
   have fS:=hI.o.cp.pure (21,24) (by decide) dS
   simp only [cval]at fS;obtain⟨b,h7,hb,D,es,hown,hmf⟩:=hI.o.m0 d0;have hcl:=cnt_le L;obtain⟨w2,hrun,ho2,ht2⟩:=hown.store (Maps.string_keyed Tryd.underlying9) Tryd.underlying127 (by unfold maxLen;omega) (key:=.string ⟨#[101,120,112,114,115]⟩) (kl:=.string [101,120,112,114,115]) (Go.WideMaps.keyOf_string_mk Tryd.underlying9 (s:=⟨#[101,120,112,114,115]⟩) (by decide)) (plainElem_bool Tryd.underlying4 (decide (0<q.exprs.length)))
   have HMF:=ai hmf;have HO2:=ai ho2;have HT2:=ai ht2;clear hmf ho2 ht2 hown hcl;refine opwp_K (fun K2 hK2=> ?_)
   go_simp
   exact hK2 _ _ ⟨s,by first|rfl| (simp [h7,fS];done),ai (hI.o.ins (e:=(22,[101,120,112,114,115],decide (0<q.exprs.length))) (List.mem_map.2 ⟨(22,[101,120,112,114,115]),by decide,rfl⟩) (show 22<38 by decide) (show∀p∈ctbl,p.1≠22 by decide) d0 hL h7 hb HMF.o HT2.o.grown HO2.o)⟩
  ·injection ho with ho
   subst ho;refine opwp_K (fun K2 hK2=> ?_)
   go_simp
   exact hK2 _ _ ⟨fun k=>if k=25 then cval q w.heap.size 23 else s k,by first|rfl| (simp [CP];done) | (simp [CP,cval];done) | (simp [CP,cval,uT];done),ai (hI.o.pure (i:=23) (j:=25) (by decide) (by decide) hL (Below.refl _ _))⟩
  ·injection ho with ho
   subst ho;have d23:L 23=true:=he ⟨23,.data⟩ (by simp) rfl
   have f23:=hI.o.cp.pure (23,25) (by decide) d23
   simp only [cval]at f23;have x11:=HX.o _ hI.o.bw 11 _ rfl;refine opwp_K (fun K2 hK2=> ?_)
   go_simp
   exact hK2 _ _ ⟨fun k=>if k=26 then cval q w.heap.size 24 else s k,by first|rfl| (simp [f23];done) | (simp [f23,cval];done) | (simp [f23,cval,uT];done),ai (hI.o.pure (i:=24) (j:=26) (by decide) (by decide) hL (Below.refl _ _))⟩
  ·injection ho with ho
   subst ho;have d24:L 24=true:=he ⟨24,.data⟩ (by simp) rfl
   have f24:=hI.o.cp.pure (24,26) (by decide) d24
   simp only [cval]at f24;refine opwp_K (fun K2 hK2=> ?_)
   go_simp
   exact hK2 _ _ ⟨fun k=>if k=27 then cval q w.heap.size 25 else s k,by first|rfl| (simp [f24];done) | (simp [f24,cval];done) | (simp [f24,cval,uT];done),ai (hI.o.pure (i:=25) (j:=27) (by decide) (by decide) hL (Below.refl _ _))⟩
  ·injection ho with ho
   subst ho;have d25:L 25=true:=he ⟨25,.data⟩ (by simp) rfl
   have f25:=hI.o.cp.pure (25,27) (by decide) d25
   simp only [cval]at f25;refine opwp_K (fun K2 hK2=> ?_)
   go_simp
   exact hK2 _ _ ⟨fun k=>if k=28 then cval q w.heap.size 26 else s k,by first|rfl| (simp [f25];done) | (simp [f25,cval];done) | (simp [f25,cval,uT];done),ai (hI.o.pure (i:=26) (j:=28) (by decide) (by decide) hL (Below.refl _ _))⟩
  ·injection ho with ho
   subst ho;have d0:L 0=true:=he ⟨0,.data⟩ (by simp) rfl
   have dS:L 26=true:=he ⟨26,.data⟩ (by simp) rfl
   have fS:=hI.o.cp.pure (26,28) (by decide) dS
   simp only [cval]at fS;obtain⟨b,h7,hb,D,es,hown,hmf⟩:=hI.o.m0 d0;have hcl:=cnt_le L;obtain⟨w2,hrun,ho2,ht2⟩:=hown.store (Maps.string_keyed Tryd.underlying9) Tryd.underlying127 (by unfold maxLen;omega) (key:=.string ⟨#[97,103,103,115]⟩) (kl:=.string [97,103,103,115]) (Go.WideMaps.keyOf_string_mk Tryd.underlying9 (s:=⟨#[97,103,103,115]⟩) (by decide)) (plainElem_bool Tryd.underlying4 (decide (0<q.aggs.length)))
   have HMF:=ai hmf;have HO2:=ai ho2;have HT2:=ai ht2;clear hmf ho2 ht2 hown hcl;refine opwp_K (fun K2 hK2=> ?_)
   go_simp
   exact hK2 _ _ ⟨s,by first|rfl| (simp [h7,fS];done),ai (hI.o.ins (e:=(27,[97,103,103,115],decide (0<q.aggs.length))) (List.mem_map.2 ⟨(27,[97,103,103,115]),by decide,rfl⟩) (show 27<38 by decide) (show∀p∈ctbl,p.1≠27 by decide) d0 hL h7 hb HMF.o HT2.o.grown HO2.o)⟩
  ·injection ho with ho
   subst ho;refine opwp_K (fun K2 hK2=> ?_)
   go_simp
   exact hK2 _ _ ⟨fun k=>if k=29 then cval q w.heap.size 28 else s k,by first|rfl| (simp [CP];done) | (simp [CP,cval];done) | (simp [CP,cval,uT];done),ai (hI.o.pure (i:=28) (j:=29) (by decide) (by decide) hL (Below.refl _ _))⟩
  ·injection ho with ho
   subst ho;have d28:L 28=true:=he ⟨28,.data⟩ (by simp) rfl
   have f28:=hI.o.cp.pure (28,29) (by decide) d28
   simp only [cval]at f28;have x12:=HX.o _ hI.o.bw 12 _ rfl;refine opwp_K (fun K2 hK2=> ?_)
   go_simp
   exact hK2 _ _ ⟨fun k=>if k=30 then cval q w.heap.size 29 else s k,by first|rfl| (simp [f28];done) | (simp [f28,cval];done) | (simp [f28,cval,uT];done),ai (hI.o.pure (i:=29) (j:=30) (by decide) (by decide) hL (Below.refl _ _))⟩
  ·injection ho with ho
   subst ho;have d29:L 29=true:=he ⟨29,.data⟩ (by simp) rfl
   have f29:=hI.o.cp.pure (29,30) (by decide) d29
   simp only [cval]at f29;refine opwp_K (fun K2 hK2=> ?_)
   go_simp
   exact hK2 _ _ ⟨fun k=>if k=31 then cval q w.heap.size 30 else s k,by first|rfl| (simp [f29];done) | (simp [f29,cval];done) | (simp [f29,cval,uT];done),ai (hI.o.pure (i:=30) (j:=31) (by decide) (by decide) hL (Below.refl _ _))⟩
  ·injection ho with ho
   subst ho;have d30:L 30=true:=he ⟨30,.data⟩ (by simp) rfl
   have f30:=hI.o.cp.pure (30,31) (by decide) d30
   simp only [cval]at f30;refine opwp_K (fun K2 hK2=> ?_)
   go_simp
   exact hK2 _ _ ⟨fun k=>if k=32 then cval q w.heap.size 31 else s k,by first|rfl| (simp [f30];done) | (simp [f30,cval];done) | (simp [f30,cval,uT];done),ai (hI.o.pure (i:=31) (j:=32) (by decide) (by decide) hL (Below.refl _ _))⟩
  ·injection ho with ho
   subst ho;have d0:L 0=true:=he ⟨0,.data⟩ (by simp) rfl
   have dS:L 31=true:=he ⟨31,.data⟩ (by simp) rfl
   have fS:=hI.o.cp.pure (31,32) (by decide) dS
   simp only [cval]at fS;obtain⟨b,h7,hb,D,es,hown,hmf⟩:=hI.o.m0 d0;have hcl:=cnt_le L;obtain⟨w2,hrun,ho2,ht2⟩:=hown.store (Maps.string_keyed Tryd.underlying9) Tryd.underlying127 (by unfold maxLen;omega) (key:=.string ⟨#[116,121,112,101,115]⟩) (kl:=.string [116,121,112,101,115]) (Go.WideMaps.keyOf_string_mk Tryd.underlying9 (s:=⟨#[116,121,112,101,115]⟩) (by decide)) (plainElem_bool Tryd.underlying4 (decide (0<q.types.l.length)))
   have HMF:=ai hmf;have HO2:=ai ho2;have HT2:=ai ht2;clear hmf ho2 ht2 hown hcl;refine opwp_K (fun K2 hK2=> ?_)
   go_simp
   exact hK2 _ _ ⟨s,by first|rfl| (simp [h7,fS];done),ai (hI.o.ins (e:=(32,[116,121,112,101,115],decide (0<q.types.l.length))) (List.mem_map.2 ⟨(32,[116,121,112,101,115]),by decide,rfl⟩) (show 32<38 by decide) (show∀p∈ctbl,p.1≠32 by decide) d0 hL h7 hb HMF.o HT2.o.grown HO2.o)⟩
  ·injection ho with ho
   subst ho;refine opwp_K (fun K2 hK2=> ?_)
   go_simp
   exact hK2 _ _ ⟨fun k=>if k=33 then cval q w.heap.size 33 else s k,by first|rfl| (simp [CP];done) | (simp [CP,cval];done) | (simp [CP,cval,uT];done),ai (hI.o.pure (i:=33) (j:=33) (by decide) (by decide) hL (Below.refl _ _))⟩
  ·injection ho with ho
   subst ho;have d33:L 33=true:=he ⟨33,.data⟩ (by simp) rfl
   have f33:=hI.o.cp.pure (33,33) (by decide) d33
   simp only [cval]at f33;have x13:=HX.o _ hI.o.bw 13 _ rfl;refine opwp_K (fun K2 hK2=> ?_)
   go_simp
   exact hK2 _ _ ⟨fun k=>if k=34 then cval q w.heap.size 34 else s k,by first|rfl| (simp [f33];done) | (simp [f33,cval];done) | (simp [f33,cval,uT];done),ai (hI.o.pure (i:=34) (j:=34) (by decide) (by decide) hL (Below.refl _ _))⟩
  ·injection ho with ho
   subst ho;have d34:L 34=true:=he ⟨34,.data⟩ (by simp) rfl
   have f34:=hI.o.cp.pure (34,34) (by decide) d34
   simp only [cval]at f34;refine opwp_K (fun K2 hK2=> ?_)
   go_simp
   exact hK2 _ _ ⟨fun k=>if k=35 then cval q w.heap.size 35 else s k,by first|rfl| (simp [f34];done) | (simp [f34,cval];done) | (simp [f34,cval,uT];done),ai (hI.o.pure (i:=35) (j:=35) (by decide) (by decide) hL (Below.refl _ _))⟩
  ·injection ho with ho
   subst ho;have d35:L 35=true:=he ⟨35,.data⟩ (by simp) rfl
   have f35:=hI.o.cp.pure (35,35) (by decide) d35
   simp only [cval]at f35;refine opwp_K (fun K2 hK2=> ?_)
   go_simp
   exact hK2 _ _ ⟨fun k=>if k=36 then cval q w.heap.size 36 else s k,by first|rfl| (simp [f35];done) | (simp [f35,cval];done) | (simp [f35,cval,uT];done),ai (hI.o.pure (i:=36) (j:=36) (by decide) (by decide) hL (Below.refl _ _))⟩
  ·injection ho with ho
   subst ho;have d0:L 0=true:=he ⟨0,.data⟩ (by simp) rfl
   have dS:L 36=true:=he ⟨36,.data⟩ (by simp) rfl
   have fS:=hI.o.cp.pure (36,36) (by decide) dS
   simp only [cval]at fS;obtain⟨b,h7,hb,D,es,hown,hmf⟩:=hI.o.m0 d0;have hcl:=cnt_le L;obtain⟨w2,hrun,ho2,ht2⟩:=hown.store (Maps.string_keyed Tryd.underlying9) Tryd.underlying127 (by unfold maxLen;omega) (key:=.string ⟨#[114,111,119,115]⟩) (kl:=.string [114,111,119,115]) (Go.WideMaps.keyOf_string_mk Tryd.underlying9 (s:=⟨#[114,111,119,115]⟩) (by decide)) (plainElem_bool Tryd.underlying4 (decide (0<q.rows.length)))
   have HMF:=ai hmf;have HO2:=ai ho2;have HT2:=ai ht2;clear hmf ho2 ht2 hown hcl;refine opwp_K (fun K2 hK2=> ?_)
   go_simp
   exact hK2 _ _ ⟨s,by first|rfl| (simp [h7,fS];done),ai (hI.o.ins (e:=(37,[114,111,119,115],decide (0<q.rows.length))) (List.mem_map.2 ⟨(37,[114,111,119,115]),by decide,rfl⟩) (show 37<38 by decide) (show∀p∈ctbl,p.1≠37 by decide) d0 hL h7 hb HMF.o HT2.o.grown HO2.o)⟩
  ·injection ho with ho
   subst ho;have hall: ∀i,i<38→L i=true:=fun i hi=>by
    have hc:i=0∨i=1∨i=2∨i=3∨i=4∨i=5∨i=6∨i=7∨i=8∨i=9∨i=10∨i=11∨i=12∨i=13∨i=14∨i=15∨i=16∨i=17∨i=18∨i=19∨i=20∨i=21∨i=22∨i=23∨i=24∨i=25∨i=26∨i=27∨i=28∨i=29∨i=30∨i=31∨i=32∨i=33∨i=34∨i=35∨i=36∨i=37:=by omega
    rcases hc with rfl|rfl|rfl|rfl|rfl|rfl|rfl|rfl|rfl|rfl|rfl|rfl|rfl|rfl|rfl|rfl|rfl|rfl|rfl|rfl|rfl|rfl|rfl|rfl|rfl|rfl|rfl|rfl|rfl|rfl|rfl|rfl|rfl|rfl|rfl|rfl|rfl|rfl
    all_goals exact he ⟨_,.data⟩ (by simp) rfl
   obtain⟨b,h7,hb,-⟩:=hI.o.m0 (hall 0 (by decide))
   have HALL:=ai hall;clear hall;refine opwp_K (fun K2 hK2=> ?_)
   go_simp
   exact hK2 _ _ ⟨fun k=>if k=37 then s 7 else s k,by first|rfl| (simp [h7];done),ai (hI.o.move hL HALL.o)⟩
  ·injection ho with ho
   subst ho;have d38:L 38=true:=he ⟨38,.data⟩ (by simp) rfl
   obtain⟨b,h7,hb,D,es,hown,hmf⟩:=hI.o.m0 (hI.o.aft d38 0 (by decide))
   have h37:=(hI.o.mv d38).trans h7;obtain⟨w2,hrun,hr2,hg2,hs2⟩:=hown.range (Maps.string_keyed Tryd.underlying9) Tryd.underlying127;have HMF:=ai hmf;have HR2:=ai hr2;have HG2:=ai hg2;clear hmf hr2 hg2 hs2 hown;refine opwp_K (fun K2 hK2=> ?_)
   go_simp
   exact hK2 _ _ ⟨fun k=>if k=38 then .pointer (some ⟨w'.heap.size,0,none⟩) else s k,by first|rfl| (simp [h7,h37];done),ai (hI.o.rng d38 h7 hb HMF.o HR2.o HG2.o)⟩
 case fin=>
  intro L a w' hL hinv;obtain⟨s,rfl,hI⟩:=hinv;obtain⟨-,b,r,D,es,h38,hb,hr,hrg,hmf⟩:=hI.o.rg (hL 39 (by decide))
  have HMF:=ai hmf;have HRG:=ai hrg;have HBW:=ai hI.o.bw;have HN:=ai (cnt_le L);generalize cnt L=n at *;clear hmf hrg hI hL;rw [h38];clear h38;go_wp2;go_loopw [5] (fun _ wr=>∃left c,wr.ranges Tryd.prog 9 (plainElem (H:=Unit) Tryd.prog 4) b r n D left c∧(∀kl,left kl=true→Maps.has D kl=true)∧(∀kl,Maps.has D kl=true→left kl=false→okK q fu kl)∧Below W.heap.size W wr) (fun _ wr=>wr.rangeLeft b r)
  case atStart=>exact⟨_,_,HRG.o,fun _ h=>h,fun kl h1 h2=>(by rw [h1]at h2;cases h2),HBW.o⟩
  case round=>
   clear HRG HBW;obtain⟨left,c,hrg,hsub,hdone,hbw⟩:=hrel;have HSUB:=ai hsub;have HDONE:=ai hdone;have HBW:=ai hbw;clear hsub hdone hbw;go_wp2_with (at_next;refine wpList_next_ranges _ rfl _ rfl 9 (Maps.string_keyed Tryd.underlying9) (plainElem (H:=Unit) Tryd.prog 4) encStr Value.bool (fun key kl hk=>by obtain⟨x,hx,_⟩:=Maps.keyOf_str Tryd.underlying9 hk;exact⟨x,hx⟩) (fun v y hv=>by obtain⟨c,rfl,_⟩:=plain_bool Tryd.underlying4 hv;exact⟨c,rfl⟩) b r n _ _ _ rfl hrg ?_ ?_)
   ·intro _ hl0
    have HL0:=ai hl0;go_wp2;go_ret
    refine⟨congrArg (fun b=>Ending.returned (Value.bool b)) ?_,(HB0.o.trans (HBW.o.mono HB0.o.size))⟩
    symm
    refine List.all_eq_true.2 (fun e he=> ?_)
    cases hu:e.2.2 with
    | false=>rfl
    | true=>exact HDONE.o _ (HMF.o.has e he rfl) (HL0.o _) e he rfl hu
   ·intro x
    refine⟨?_,?_⟩
    ·intro kl yd yp w2 c2 hkey hlk hv hat hrg2 hlt hg2 hs2 hen
     have hyd:yd = .lit (.bool false):=by
      rw [plainElem_bool Tryd.underlying4]at hv;exact(congrArg Prod.fst (Option.some.inj hv)).symm
     obtain⟨e,he,hke,hae⟩:=HMF.o.at' (HSUB.o kl hlk);have heu:e.2.2=false:=by
      have h1:=(hae .nil).symm.trans (hat .nil);rw [hyd]at h1;injection h1 with h1;injection h1
     obtain⟨x',ex,hkx,-⟩:=Maps.keyOf_str Tryd.underlying9 hkey;have hxx:=encStr_inj ex;have hxe:x=e.2.1:=by rw [hxx];rw [hke]at hkx;injection hkx with h;exact h.symm
     have HE:=ai he;have HKE:=ai hke;have HEU:=ai heu;have HXE:=ai hxe;have HLK:=ai hlk;have HG2:=ai hg2;have HRG2:=ai hrg2;have HRG:=ai hrg;have HLT:=ai hlt;have HB2:=ai (HBW.o.grown hg2 HBW.o.size (fun k hk=>by cases hk;exact hr))
     clear hyd he hke hae heu hkey ex hkx hxx hxe hv hat hlk hg2 hrg2 hrg hlt hs2;have HNO:=ai (show okK q fu kl from fun e2 he2 hk2 hu2=>by
      have h1:=flds_key q e HE.o e2 he2 (by rw [HKE.o]at hk2;injection hk2)
      rw [←h1,HEU.o]at hu2
      cases hu2)
     go_wp2;go_roundw
     case rel=>
      refine⟨_,_,HRG2.o,fun k2 h=>HSUB.o k2 (by simp at h;exact h.1),fun k2 h1 h2=> ?_,HB2.o⟩
      by_cases h3:left k2=true
      ·have h4:k2.sameKey kl=true:=by simpa [h3]using h2
       rw [WideAt.sameKey_eq h4];exact HNO.o
      ·exact HDONE.o k2 h1 (by simpa using h3)
     case measure=>rw [HRG2.o.left_eq,HRG.o.left_eq];exact HLT.o
    ·intro kl yd yp w2 c2 hkey hlk hv hat hrg2 hlt hg2 hs2 hen
     have hyd:yd = .lit (.bool true):=by
      rw [plainElem_bool Tryd.underlying4]at hv;exact(congrArg Prod.fst (Option.some.inj hv)).symm
     obtain⟨e,he,hke,hae⟩:=HMF.o.at' (HSUB.o kl hlk);have heu:e.2.2=true:=by
      have h1:=(hae .nil).symm.trans (hat .nil);rw [hyd]at h1;injection h1 with h1;injection h1
     obtain⟨x',ex,hkx,-⟩:=Maps.keyOf_str Tryd.underlying9 hkey;have hxx:=encStr_inj ex;have hxe:x=e.2.1:=by rw [hxx];rw [hke]at hkx;injection hkx with h;exact h.symm
     have HE:=ai he;have HKE:=ai hke;have HEU:=ai heu;have HXE:=ai hxe;have HLK:=ai hlk;have HG2:=ai hg2;have HRG2:=ai hrg2;have HRG:=ai hrg;have HLT:=ai hlt;have HB2:=ai (HBW.o.grown hg2 HBW.o.size (fun k hk=>by cases hk;exact hr))
     clear hyd he hke hae heu hkey ex hkx hxx hxe hv hat hlk hg2 hrg2 hrg hlt hs2;have hxl:x.length≤5:=by
      have h1: ∀p∈fnames,p.2.length≤5:=by decide
      rw [HXE.o];exact h1 _ (flds_mem HE.o).1
     have HSH:=ai (hsh.keptBut ((HB0.o.trans (HB2.o.mono HB0.o.size)).frame (fun _=>False)) (by simp))
     have hF2:=HF.o w2 HB2.o 2 _ rfl;have HS2:=ai (show(⟨#[32]⟩ ++ fu ++ ⟨#[32]⟩ :ByteArray).size<4294967281 by rw [ByteArray.size_append,ByteArray.size_append];show 1+fu.size+1<_;omega)
     have HC:=ai (show Lib.contains ((⟨#[32]⟩ ++ fu ++ ⟨#[32]⟩ :ByteArray).data.toList) ((⟨#[32]⟩ ++ ⟨x.toArray⟩ ++ ⟨#[32]⟩ :ByteArray).data.toList) =inUses fu x by simp [inUses])
     cases hc:inUses fu x
     ·have HCC:=ai hc
      clear hc;go_wp2_with (go_at_call 44;refine(Tryd.strings_Contains_shaped _ _ _ HSH.o HS2.o).mono ?_;rintro e w3 ⟨rfl,rfl⟩;rw [HC.o,HCC.o])
      go_ret
      refine⟨congrArg (fun b=>Ending.returned (Value.bool b)) ?_,(HB0.o.trans (HB2.o.mono HB0.o.size))⟩
      symm
      refine Bool.eq_false_iff.2 (fun h=> ?_)
      have h1:=List.all_eq_true.1 h e HE.o;rw [HEU.o,←HXE.o,HCC.o]at h1
      cases h1
     ·have HCC:=ai hc
      clear hc;have HNO:=ai (show okK q fu kl from fun e2 he2 hk2 hu2=>by
       have h1:=flds_key q e HE.o e2 he2 (by rw [HKE.o]at hk2;injection hk2)
       rw [←h1,←HXE.o];exact HCC.o)
      go_wp2_with (go_at_call 44;refine(Tryd.strings_Contains_shaped _ _ _ HSH.o HS2.o).mono ?_;rintro e w3 ⟨rfl,rfl⟩;rw [HC.o,HCC.o])
      go_roundw
      case rel=>
       refine⟨_,_,HRG2.o,fun k2 h=>HSUB.o k2 (by simp at h;exact h.1),fun k2 h1 h2=> ?_,HB2.o⟩
       by_cases h3:left k2=true
       ·have h4:k2.sameKey kl=true:=by simpa [h3]using h2
        rw [WideAt.sameKey_eq h4];exact HNO.o
       ·exact HDONE.o k2 h1 (by simpa using h3)
      case measure=>rw [HRG2.o.left_eq,HRG.o.left_eq];exact HLT.o
end Go.Proofs.YtogalchclmmfgaaDoor

/- A part of the proof of AlgebraMade. -/
import Derived.Test.YtogalchclmmfgaaDoorP47
import Derived.Test.YtogalchclmmfgaaDoorProg
import Derived.Test.YtogalchclmmfgaaDoorP01
import Derived.ProofKit
import Derived.OpenShut
import Derived.KernelRfl
set_option maxRecDepth 100000
set_option maxHeartbeats 16000000
namespace Go.Proofs.YtogalchclmmfgaaDoor
open Go.RowKit
theorem QOut.wider {s:Sch} {w w':World} {b a n n' N N':Nat} {L:IL} {e:Ending} (h:QOut s w w' b a n N L e) (hn:n≤n') (hN:N≤N') :QOut s w w' b a n' N' L e:=by
 obtain⟨⟨q,o,h1,h2⟩,⟨a',h3,h4,h5⟩,h6⟩:=h;exact⟨⟨q,o,h1,h2.wide (Nat.le_refl _) (Nat.le_refl _) h2.qd.le hN⟩,⟨a',h3,by omega,h5⟩,h6⟩
theorem qry_leaf {d:Int} (w:World) (b a:Nat) (L:IL) (s:Sch) (E:Nat) (hsk:SKd b s E w) (hE:E≤w.heap.size) (ht:TapeIn w b L a) (ha:a+40≤4611686018427370000) (h5:d≤1∨L.next a 5=0) :
  Calls Tryd.prog 13 #[.pointer (some ⟨b,0,none⟩),.agg #[.slice s.th.ao s.tabs.length s.th.cap],.int .i64 d] w fun e w'=>QOut s w w' b a 40 10 L e:=by
 obtain⟨p,hp⟩ : ∃p,(d≤1→p=a)∧(¬d≤1→p=a+1):=by
  by_cases hd:d≤1
  ·exact⟨a,fun _=>rfl,fun h=>absurd hd h⟩
  ·exact⟨a+1,fun h=>absurd h hd,fun _=>rfl⟩
 by_cases h6:L.next p 6=0
 ·exact query_vals w b a L s E hsk hE ht ha h5 p hp h6
 ·exact query_scan w b a L s E hsk hE ht ha h5 p hp h6
theorem qry_base {d:Int} (hd:d≤1) :QryAt 40 10 d:=fun w b a L s E hsk hE ht ha=>qry_leaf w b a L s E hsk hE ht ha (.inl hd)
theorem qry_step (HE2:Hid (ExprAt 20 5 2)) (HE3:Hid (ExprAt 110 21 3)) {n N:Nat} {d:Int} (hd:2≤d∧d≤4) (hn:n≤100000) (h:QryAt n N (d - 1)) :QryAt (2*n+250) (2*N+60) d:=fun w b a L s E hsk hE ht ha=>by
 by_cases h5:L.next a 5=0
 ·exact(qry_leaf w b a L s E hsk hE ht (by omega) (.inr h5)).mono fun e w' hq=>hq.wider (by omega) (by omega)
 ·exact query_step HE2 HE3 hd hn (ai h) w b a L s E hsk hE ht ha h5
theorem qry_four (HE2:Hid (ExprAt 20 5 2)) (HE3:Hid (ExprAt 110 21 3)) :QryAt 2070 500 4:=
 qry_step HE2 HE3 (n:=910) (N:=220) ⟨by decide,by decide⟩ (by decide) (qry_step HE2 HE3 (n:=330) (N:=80) ⟨by decide,by decide⟩ (by decide) (qry_step HE2 HE3 (n:=40) (N:=10) ⟨by decide,by decide⟩ (by decide) (qry_base (by decide))))
end Go.Proofs.YtogalchclmmfgaaDoor
namespace Go.Proofs.YtogalchclmmfgaaDoor
open Go.RowKit Go.ChangeShapes Go.WideShapes
section
variable {H:Type} {enc:TypeId×Value→H} {w:World} {sp:Nat→Bool} {hd:Bool}
theorem pick_list {α:Type} {p:Nat→α→Prop} : ∀(n:Nat),(∀i,i<n→∃a,p i a)→∃xs:List α,xs.length=n∧∀i (h:i<xs.length),p i xs[i]
 | 0,_=>⟨[],rfl,fun i h=>absurd h (by simp)⟩
 | n+1,h=>by
  obtain⟨xs,hl,hx⟩:=pick_list n (fun i hi=>h i (by omega))
  obtain⟨a,ha⟩:=h n (by omega)
  refine⟨xs ++ [a],by simp [hl],fun i hi=> ?_⟩
  by_cases e:i<xs.length
  ·rw [List.getElem_append_left e];exact hx i e
  ·have hin:i=xs.length:=by simp at hi;omega
   subst hin;rw [List.getElem_append_right (by omega)]
   simpa [hl]using ha
theorem open_row {P:Program} {α:Type} {t e:TypeId} {size fuel:Nat} {cs:List Value} {x:DataW H×List MemPlace} (cells:α→List Value) (good:α→Prop)
  (ht:P.underlying t=some (.slice e)) (hc:P.cellsOf e=size) (hpos:0<size)
  (hel: ∀fuel' cs' x',fuel'<fuel→DataW.trod enc P w 0 sp hd fuel' e cs'=some x'→∃a:α,cs'=cells a∧good a)
  (h:DataW.trod enc P w 0 sp hd fuel t cs=some x) : ∃(h:Hd) (xs:List α),cs = [.slice h.ao xs.length h.cap]∧Row w size cells h xs∧∀a∈xs,good a:=by
 rcases DataW.trod_slice ht h with⟨rfl,_⟩ | ⟨a,len,cap,elems,rest,n,hn,rfl,_,_,hl,hm,hlen,hall,_⟩
 ·exact⟨nilHd,[],rfl,Row.nil _ _ _,fun a ha=>by cases ha⟩
 ·rw [hc]at hall
  have key: ∀i,i<len→∃b:α,(∀j v,(cells b)[j]? = some v→w.cell? ((a.add (i*size)).add j) =some v)∧(cells b).length=size∧good b:=by
   intro i hi;have h1:=hall i hi;rw [List.getElem?_eq_getElem (by omega)]at h1
   obtain⟨cs',hcs,htr⟩:=Option.bind_eq_some_iff.1 h1;obtain⟨b,rfl,hb⟩:=hel n cs' _ (by omega) htr
   obtain⟨_,hcl,hcell⟩:=World.cells?_some hcs;refine⟨b,fun j v hv=> ?_,hcl,hb⟩
   have hj:j<size:=by rw [←hcl];exact(List.getElem?_eq_some_iff.1 hv).1
   rw [hcell j hj];exact hv
  obtain⟨xs,hxl,hx⟩:=pick_list len key;subst hxl;obtain⟨b,o,spot⟩:=a;have hspot:0<xs.length→spot=none∧b<w.heap.size:=by
   intro hp;obtain⟨g1,g2,_⟩:=hx 0 hp;have hv: (cells (xs[0]'hp))[0]? = some ((cells (xs[0]'hp))[0]'(by omega)):=List.getElem?_eq_getElem (by omega)
   have:=g1 0 _ hv;simp only [Nat.zero_mul]at this;have h0: ((⟨b,o,spot⟩ :Addr).add 0).add 0= ⟨b,o,spot⟩:=by simp [Addr.add]
   rw [h0]at this;have hs:=World.cell?_spot this;have hs':spot=none:=by simpa using hs
   subst hs';exact⟨rfl,World.block_lt_of_cell? w ⟨b,o,none⟩ this⟩
  refine⟨⟨some ⟨b,o,spot⟩,cap⟩,xs,rfl,⟨hl,hm,fun hp=> ?_,fun i hi j v hv=> ?_⟩,fun a ha=> ?_⟩
  ·obtain⟨rfl,hlt⟩:=hspot hp
   exact⟨rfl,hlt⟩
  ·obtain⟨rfl,hlt⟩:=hspot (by omega)
   have:=(hx i hi).1 j v hv;rw [Addr.add_lit,Addr.add_lit]at this;exact this
  ·obtain⟨i,hi,rfl⟩:=List.getElem_of_mem ha
   exact(hx i hi).2.2
theorem int64_of {n:Int} (h: (Lit.int .i64 n).wf=true) :int64 n:=by
 exact bounds_i64 h
theorem cells_of_3:Tryd.prog.cellsOf 3=1:=by kernel_rfl
theorem open_il {fuel:Nat} {cs:List Value} {x:DataW H×List MemPlace} (h:DataW.trod enc Tryd.prog w 0 sp hd fuel 22 cs=some x) : ∃r:IL,cs=r.cells∧r.In w:=by
 obtain⟨hd,xs,rfl,hr,hg⟩:=open_row icells int64 Tryd.underlying22 cells_of_3 (by decide) (fun f cs x _ h=>by obtain⟨n,rfl,_,hw⟩:=DataW.trod_int Tryd.underlying3 h;exact⟨n,rfl,int64_of hw⟩) h
 exact⟨⟨hd,xs⟩,rfl,hr,hg⟩
end
end Go.Proofs.YtogalchclmmfgaaDoor

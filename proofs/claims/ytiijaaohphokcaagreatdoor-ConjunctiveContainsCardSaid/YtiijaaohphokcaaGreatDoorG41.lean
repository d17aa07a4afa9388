/- law27.frozen: what the instance holds while it is made; the new values. -/
import Derived.Test.YtiijaaohphokcaaGreatDoorG38
import Derived.Test.YtiijaaohphokcaaGreatDoorCjL4K
import Derived.Test.YtiijaaohphokcaaGreatDoorG09
import Derived.Test.YtiijaaohphokcaaGreatDoorG25
import Derived.Test.YtiijaaohphokcaaGreatDoorG34
import Derived.Maps.AppendAt
set_option maxRecDepth 100000
set_option maxHeartbeats 16000000
namespace Go.Proofs.YtiijaaohphokcaaGreatDoor
open Go.RowKit
noncomputable def nuV (τ:Nat→Int) (x:Nat) :V:=if τ x=1 then ⟨1,1000+x,⟨#[]⟩⟩ else ⟨3,0,⟨#[118,UInt8.ofNat (97+x)]⟩⟩
theorem nuV_pool (τ:Nat→Int) (x:Nat) : ¬Pool (nuV τ x):=fun⟨h1,h2⟩=>by
 unfold nuV at h1 h2
 by_cases h:τ x=1
 ·rw [if_pos h]at h1
  have h1: (1000+ (x:Int)) <1000:=h1;omega
 ·rw [if_neg h]at h2
  exact h2 rfl
theorem nuV_inj {τ:Nat→Int} {x y:Nat} (hx:x<16) (hy:y<16) (h:nuV τ x=nuV τ y) :x=y:=by
 unfold nuV at h
 by_cases h1:τ x=1<;>by_cases h2:τ y=1
 ·rw [if_pos h1,if_pos h2]at h
  injection h with _ h _;omega
 ·rw [if_pos h1,if_neg h2]at h
  injection h with h _ _;exact absurd h (by decide)
 ·rw [if_neg h1,if_pos h2]at h
  injection h with h _ _;exact absurd h (by decide)
 ·rw [if_neg h1,if_neg h2]at h
  injection h with _ _ h;injection h with h;have h3 : [(118:UInt8),UInt8.ofNat (97+x)] = [118,UInt8.ofNat (97+y)]:=congrArg Array.toList h;injection h3 with _ h3;injection h3 with h3 _;have h4:=congrArg UInt8.toNat h3;rw [UInt8.toNat_ofNat',UInt8.toNat_ofNat']at h4;omega
theorem nuV_ok {τ:Nat→Int} {x:Nat} (hx:x<16) (ht:τ x=1∨τ x=3) :ValOk (nuV τ x) (τ x):=by
 unfold nuV
 rcases ht with h|h
 ·rw [if_pos h,h]
  refine⟨⟨by show int64 1;constructor<;>decide,by show int64 (1000+ (x:Int));constructor<;>omega,by show(⟨#[]⟩ :ByteArray).size≤maxLen;exact Nat.zero_le _⟩,?_,rfl⟩
  show(if (1:Int) =0 then _ else if (1:Int) =1 then (inR (1000+ (x:Int)) && ((⟨#[]⟩ :ByteArray).toList == [])) else _) =true
  rw [if_neg (by decide),if_pos rfl,show inR (1000+ (x:Int)) =true from decide_eq_true ⟨by omega,by omega⟩,ByteArray.toList_eq]
  rfl
 ·rw [if_neg (by omega),h]
  refine⟨⟨by show int64 3;constructor<;>decide,by show int64 0;constructor<;>decide,by show(2:Nat)≤maxLen;unfold maxLen;omega⟩,?_,rfl⟩
  have ht:txt ⟨#[118,UInt8.ofNat (97+x)]⟩ =true:=txt_yes ⟨by show(2:Nat)≤24;decide,fun j hj=>by
   have hj:j<2:=hj;have hc: ∀x:Nat,x<16→goodN (UInt8.ofNat (97+x)).toNat=true:=by decide
   rcases j with _|_|j
   ·exact(by decide:goodN (118:UInt8).toNat=true)
   ·exact hc x hx
   ·omega⟩
  show(if (3:Int) =0 then _ else if (3:Int) =1 then _ else if (3:Int) =2 then _ else if (3:Int) =3 then ((0:Int) == 0) && txt ⟨#[118,UInt8.ofNat (97+x)]⟩ else false) =true
  rw [if_neg (by decide),if_neg (by decide),if_neg (by decide),if_pos rfl,ht]
  rfl
theorem newVal_of {T T':List (List Int)} {va vb:Nat} {a b:Cj V} {τ σ:Nat→Int} (ha:Right T va a τ) (hb:Right T' vb b σ) :NewVal (nuV τ) a b:=by
 have lt: ∀x,Occ a x→x<16:=fun x hx=>Nat.lt_of_lt_of_le (ha.lt hx) ha.v16
 have lit: ∀ {T:List (List Int)} {v:Nat} {q:Cj V} {τ:Nat→Int},Right T v q τ→∀l∈q.lits,∀k,Tm.c k∈l.2→Pool k:=fun h l hl k hk=>by
  obtain⟨ty,h1,h2,h3⟩:=h.lit l hl;obtain⟨i,hi,he⟩:=List.getElem_of_mem hk;exact(h3 i (.c k) (ty[i]'(by omega)) (by rw [List.getElem?_eq_getElem hi,he]) (List.getElem?_eq_getElem (by omega))).1.2
 refine⟨fun x y hx hy h=>nuV_inj (lt x hx) (lt y hy) h,fun l hl k hk x _ e=>nuV_pool τ x (by rw [e];exact lit ha l hl k hk),fun k hk x _ e=>nuV_pool τ x (by rw [e];exact(ha.hd _ hk).1.2),fun l hl k hk x _ e=>nuV_pool τ x (by rw [e];exact lit hb l hl k hk),fun k hk x _ e=>nuV_pool τ x (by rw [e];exact(hb.hd _ hk).1.2)⟩
section
variable {K:Type} {ν:Nat→K} {ls:List (Lt K)} {l:Lt K} {t:Nat} {row:List K}
def rowsOf (ν:Nat→K) (ls:List (Lt K)) (t:Nat) :List (List K):=(ls.filter (fun l=>l.1 == t)).map (fun l=>l.2.map (Tm.at ν))
theorem mem_rowsOf:row∈rowsOf ν ls t↔∃l∈ls,l.1=t∧l.2.map (Tm.at ν) =row:=by
 unfold rowsOf
 rw [List.mem_map]
 constructor
 ·rintro ⟨l,hl,e⟩
  obtain⟨h1,h2⟩:=List.mem_filter.1 hl;exact⟨l,h1,by simpa using h2,e⟩
 ·rintro ⟨l,hl,e1,e2⟩
  exact⟨l,List.mem_filter.2 ⟨hl,by simpa using e1⟩,e2⟩
theorem rowsOf_snoc:rowsOf ν (ls ++ [l]) t=rowsOf ν ls t ++ (if l.1=t then [l.2.map (Tm.at ν)] else []):=by
 unfold rowsOf
 rw [List.filter_append,List.map_append]
 congr 1
 by_cases h:l.1=t
 ·rw [if_pos h,List.filter_cons_of_pos (by simpa using h)];rfl
 ·rw [if_neg h,List.filter_cons_of_neg (by simpa using h)];rfl
theorem rowsOf_len: (rowsOf ν ls t).length≤ls.length:=by
 unfold rowsOf
 rw [List.length_map];exact List.length_filter_le _ _
end
abbrev rlv (r:RL) :Value:=.slice r.h.ao r.l.length r.h.cap
structure FZ (B gx gt:Nat) (T:List RL) (y:World) :Prop where
 bx:Box y gx #[.slice (some ⟨gt,0,none⟩) T.length T.length] 46
 bt:Box y gt (T.map rlv).toArray 49
 own: ∀(s:Nat) (hs:s<T.length),OutV B (rlv T[s]) T[s].l y
 dis: ∀(s t:Nat) (hs:s<T.length) (ht:t<T.length),s≠t→∀g,(rlv T[s]).ownBlock=some g→(rlv T[t]).ownBlock≠some g
 off: ∀(s t:Nat) (hs:s<T.length) (ht:t<T.length),∀r∈T[s].l,0<r.l.length→(rlv T[t]).ownBlock≠some r.h.b
 hi: ∀(s:Nat) (hs:s<T.length),∀r∈T[s].l,0<r.l.length→B≤r.h.b
 lo:gx<B∧gt<B
section
variable {B gx gt:Nat} {T:List RL} {x y z:World}
theorem OutV.grown {base:Nat} {lv:Value} {outs:List VL} {row:Option Nat} (h:OutV base lv outs x) (hg:x.grownBy y row) (hn: ∀j,row=some j→lv.ownBlock≠some j∧∀r∈outs,0<r.l.length→r.h.b≠j) :OutV base lv outs y:=by
 refine⟨?_,fun r hr=>⟨(h.ins r hr).1.any hg (fun hp e=>(hn _ e).2 r hr hp rfl),(h.ins r hr).2⟩,Nat.le_trans h.ge hg.size⟩
 cases row with
 | none=>exact h.own.kept hg (Classical.em _)
 | some j=>exact h.own.kept hg (.inr (hn j rfl).1)
theorem FZ.below (h:FZ B gx gt T y) (hb:Below y.heap.size y z) :FZ B gx gt T z:=⟨h.bx.below hb,h.bt.below hb,fun s hs=>(h.own s hs).below hb,h.dis,h.off,h.hi,h.lo⟩
theorem FZ.app {t g c:Nat} {r:VL} (h:FZ B gx gt T x) (ht:t<T.length) (hr:r.In x) (hro: ∀(s:Nat) (hs:s<T.length),0<r.l.length→(rlv T[s]).ownBlock≠some r.h.b) (hrb:0<r.l.length→B≤r.h.b)
  (hg:x.grownBy y (rlv T[t]).ownBlock) (ho:y.ownsRow B 96 1 (.slice (some ⟨g,0,none⟩) (T[t].l.length+1) c) (T[t].l.length+1) (T[t].l.flatMap VL.cells ++ [.slice r.h.ao r.l.length r.h.cap]))
  (hk: (Value.slice (some ⟨g,0,none⟩) (T[t].l.length+1) c).ownBlock= (rlv T[t]).ownBlock∨(Value.slice (some ⟨g,0,none⟩) (T[t].l.length+1) c).ownBlock=some x.heap.size) :
  FZ B gx gt (T.set t ⟨⟨some ⟨g,0,none⟩,c⟩,T[t].l ++ [r]⟩) (y.setCell ⟨gt,t,none⟩ (.slice (some ⟨g,0,none⟩) (T[t].l.length+1) c)):=by
 have hv:rlv ⟨⟨some ⟨g,0,none⟩,c⟩,T[t].l ++ [r]⟩ = .slice (some ⟨g,0,none⟩) (T[t].l.length+1) c:=by show Value.slice _ (T[t].l ++ [r]).length _=_;rw [List.length_append];rfl
 have hn:=(h.own t ht).app hr (hro t ht) hg ho hk;have hs:=gb_set y gt t (.slice (some ⟨g,0,none⟩) (T[t].l.length+1) c);have hlo:=h.lo;have hold: ∀(s:Nat) (hs:s<T.length) (j:Nat),(rlv T[s]).ownBlock=some j→B≤j∧j<x.heap.size:=fun s hs j hj=>(h.own s hs).own.lt j hj
 have hnew: ∀j,(Value.slice (some ⟨g,0,none⟩) (T[t].l.length+1) c).ownBlock=some j→(rlv T[t]).ownBlock=some j∨j=x.heap.size:=fun j hj=>by
  rcases hk with e|e
  ·exact .inl (by rw [←e];exact hj)
  ·rw [e]at hj;injection hj with hj;exact .inr hj.symm
 have hrl: ∀(p:VL),p.In x→0<p.l.length→p.h.b<x.heap.size:=fun p hp h0=>hp.1.blk h0
 have hgx:some gx≠(rlv T[t]).ownBlock:=fun e=>by have:=(hold t ht gx e.symm).1;omega
 have hgt:some gt≠(rlv T[t]).ownBlock:=fun e=>by have:=(hold t ht gt e.symm).1;omega
 have get: ∀(s:Nat) (hs:s< (T.set t ⟨⟨some ⟨g,0,none⟩,c⟩,T[t].l ++ [r]⟩).length),(T.set t ⟨⟨some ⟨g,0,none⟩,c⟩,T[t].l ++ [r]⟩)[s] =if t=s then ⟨⟨some ⟨g,0,none⟩,c⟩,T[t].l ++ [r]⟩ else T[s]'(by rw [List.length_set]at hs;exact hs):=fun s hs=>List.getElem_set ..
 refine⟨?_,?_,fun s hs2=> ?_,fun s u hs2 hu hne j hj=> ?_,fun s u hs2 hu p hp h0=> ?_,fun s hs2 p hp h0=> ?_,h.lo⟩
 ·rw [List.length_set]
  exact(h.bx.grown hg hgx).grown hs (fun e=>by injection e with e;exact(h.bx.ne h.bt (by decide)) e)
 ·have:=(h.bt.grown hg hgt).set t (.slice (some ⟨g,0,none⟩) (T[t].l.length+1) c)
  rw [List.map_set,hv]
  simpa only [List.setIfInBounds_toArray]using this
 ·have hs3:s<T.length:=by rw [List.length_set]at hs2;exact hs2
  rw [get s hs2];by_cases e:t=s
  ·rw [if_pos e,hv]
   refine hn.grown hs (fun j hj=> ?_)
   injection hj with hj;subst hj;refine⟨fun e2=>by have:=(hn.own.lt _ e2).1;omega,fun p hp h0 e2=> ?_⟩
   rcases List.mem_append.1 hp with hp|hp
   ·have:=h.hi t ht p hp h0;omega
   ·rw [List.mem_singleton.1 hp]at h0 e2
    have:=hrb h0;omega
  ·rw [if_neg e]
   refine((h.own s hs3).grown hg (fun j hj=>⟨fun e2=>h.dis s t hs3 ht (fun e3=>e e3.symm) j e2 hj,fun p hp h0 e2=>h.off s t hs3 ht p hp h0 (by rw [e2];exact hj)⟩)).grown hs (fun j hj=> ?_)
   injection hj with hj;subst hj;exact⟨fun e2=>by have:=(hold s hs3 _ e2).1;omega,fun p hp h0 e2=>by have:=h.hi s hs3 p hp h0;omega⟩
 ·have hs3:s<T.length:=by rw [List.length_set]at hs2;exact hs2
  have hu3:u<T.length:=by rw [List.length_set]at hu;exact hu
  rw [get s hs2]at hj;rw [get u hu];by_cases e1:t=s<;>by_cases e2:t=u
  ·exact absurd (e1.symm.trans e2) hne
  ·rw [if_pos e1,hv]at hj
   rw [if_neg e2];intro h3;rcases hnew j hj with h4|h4
   ·exact h.dis t u ht hu3 e2 j h4 h3
   ·have:=(hold u hu3 j h3).2;omega
  ·rw [if_neg e1]at hj
   rw [if_pos e2,hv];intro h3;rcases hnew j h3 with h4|h4
   ·exact h.dis s t hs3 ht (fun e=>e1 e.symm) j hj h4
   ·have:=(hold s hs3 j hj).2;omega
  ·rw [if_neg e1]at hj
   rw [if_neg e2];exact h.dis s u hs3 hu3 hne j hj
 ·have hs3:s<T.length:=by rw [List.length_set]at hs2;exact hs2
  have hu3:u<T.length:=by rw [List.length_set]at hu;exact hu
  have hp2: (∃(s':Nat) (hs':s'<T.length),p∈T[s'].l)∨p=r:=by
   rw [get s hs2]at hp;by_cases e1:t=s
   ·rw [if_pos e1]at hp
    rcases List.mem_append.1 hp with hp|hp
    ·exact .inl ⟨t,ht,hp⟩
    ·exact .inr (List.mem_singleton.1 hp)
   ·rw [if_neg e1]at hp
    exact .inl ⟨s,hs3,hp⟩
  have hpx:p.In x:=by
   rcases hp2 with⟨s',hs',hp'⟩ |rfl
   ·exact((h.own s' hs').ins p hp').1
   ·exact hr
  have hof: ∀(q:Nat) (hq:q<T.length),(rlv T[q]).ownBlock≠some p.h.b:=fun q hq=>by
   rcases hp2 with⟨s',hs',hp'⟩ |rfl
   ·exact h.off s' q hs' hq p hp' h0
   ·exact hro q hq h0
  rw [get u hu];by_cases e2:t=u
  ·rw [if_pos e2,hv]
   intro h3;rcases hnew _ h3 with h4|h4
   ·exact hof t ht h4
   ·have:=hrl p hpx h0;omega
  ·rw [if_neg e2]
   exact hof u hu3
 ·have hs3:s<T.length:=by rw [List.length_set]at hs2;exact hs2
  rw [get s hs2]at hp;by_cases e1:t=s
  ·rw [if_pos e1]at hp
   rcases List.mem_append.1 hp with hp|hp
   ·exact h.hi t ht p hp h0
   ·rw [List.mem_singleton.1 hp]at h0 ⊢;exact hrb h0
  ·rw [if_neg e1]at hp
   exact h.hi s hs3 p hp h0
theorem FZ.far {j:Nat} (h:FZ B gx gt T y) (hg:y.grownBy z (some j)) (hj:j<B) (h1:gx≠j) (h2:gt≠j) :FZ B gx gt T z:=
 ⟨h.bx.grown hg (fun e=>h1 (Option.some.inj e)),h.bt.grown hg (fun e=>h2 (Option.some.inj e)),fun s hs=>(h.own s hs).grown hg (fun k hk=>by
  injection hk with hk;subst hk;exact⟨fun e=>by have:=((h.own s hs).own.lt _ e).1;omega,fun r hr h0 e=>by have:=h.hi s hs r hr h0;omega⟩),h.dis,h.off,h.hi,h.lo⟩
theorem FZ.ins (h:FZ B gx gt T y) (hl:T.length≤1000) :Ins.In y ⟨⟨some ⟨gt,0,none⟩,T.length⟩,T⟩:=by
 have e: ∀T:List RL,T.map rlv=T.flatMap RL.cells:=fun T=>by
  induction T with
  | nil=>rfl
  | cons a T ih=>rw [List.map_cons,List.flatMap_cons,ih];rfl
 have hb:=h.bt;rw [e]at hb;refine⟨row_box (size:=1) (cells:=RL.cells) (fun _=>rfl) hb (by unfold maxLen;omega),fun r hr=> ?_⟩
 obtain⟨s,hs,rfl⟩:=List.getElem_of_mem hr;obtain⟨u,h1,h2,h3⟩:=(h.own s hs).rl;have e2:T[s] =u:=by
  generalize T[s] =q at *;obtain⟨⟨qa,qc⟩,ql⟩:=q;obtain⟨⟨ua,uc⟩,ul⟩:=u;injection h1 with h4 _ h5;have h2:ul=ql:=h2;have h4:qa=ua:=h4;have h5:qc=uc:=h5;rw [h2,h4,h5]
 rw [e2];exact h3
end
end Go.Proofs.YtiijaaohphokcaaGreatDoor
/- append of a row's own cells out of another row, at any address. -/
namespace Go
open Go.RowKit
theorem wp_append_own_at {P:Program} {w:World} {o:Oper} {a:Act} {K:Act→World→Prop} {Q:Exit→Act→World→Prop} (s x:Operand) (t:TypeId)
  (ho:o.op = .call { callee:=.builtin .append,args:=#[s,x],argTypes:=#[t,t] })
  (base:Nat) (e:TypeId) (i:TypeInfo) (z:Value) (size bytes:Nat) (ht:P.underlying t=some (.slice e)) (hi:P.info? e=some i) (hz:i.zero=some z)
  (hsize:i.size=size) (hby:i.bytes=bytes) (hzs:z.cells.size=size) (hsz:0<size)
  (v:Value) (n:Nat) (xs:List Value) (hs:a.eval s=v) (hown:w.ownsRow base e size v n xs)
  (ad:Addr) (m c:Nat) (news:List Value) (hx:a.eval x = .slice (some ad) m c) (hl:news.length=m*size) (hnews: ∀j u,news[j]? = some u→w.cell? (ad.add j) =some u) (h1: ∀u∈news,u.oneCell'=true)
  (h63:n+m≤maxLen) (hbytes: (n+m) *bytes≤140737488355328) (hbase:base≤w.heap.size)
  (h: ∀v' w',w'.ownsRow base e size v' (n+m) (xs ++ news)→w.grownBy w' v.ownBlock→(v'.ownBlock=v.ownBlock∨v'.ownBlock=some w.heap.size)→K (a.put o.dst v') w') :o.wp P a w K Q:=by
 obtain⟨v',w',hr,h2,h3,_,h5⟩:=run_append_own_at (P:=P) w base t o.type e i z size bytes ht hi hz hsize hby hzs hsz v n xs hown ad m c news hl hnews h1 h63 hbytes hbase
 unfold Oper.wp execOp
 simp only [ho,resolve,invoke,builtin,Sem.run_bind,Sem.run_pure,Result.andThen_ok,List.map_toArray,List.map_cons,List.map_nil,hs,hx,hr];exact h v' w' h2 h3 h5
end Go
/- law27.frozen: the region that appends a row to a table. -/
namespace Go.Proofs.YtiijaaohphokcaaGreatDoor
open Go.RowKit
structure FA (W:World) (B:Nat) (tr:RL) (r:VL) (g c:Nat) (x:World) :Prop where
 ex: ∃X1,Below W.heap.size W X1∧X1.grownBy x (rlv tr).ownBlock∧x.ownsRow B 96 1 (.slice (some ⟨g,0,none⟩) (tr.l.length+1) c) (tr.l.length+1) (tr.l.flatMap VL.cells ++ [.slice r.h.ao r.l.length r.h.cap])∧((Value.slice (some ⟨g,0,none⟩) (tr.l.length+1) c).ownBlock= (rlv tr).ownBlock∨(Value.slice (some ⟨g,0,none⟩) (tr.l.length+1) c).ownBlock=some X1.heap.size)
theorem FA.below {W x y:World} {B g c:Nat} {tr:RL} {r:VL} (h:FA W B tr r g c x) (hb:Below x.heap.size x y) :FA W B tr r g c y:=by
 obtain⟨X1,h1,h2,h3,h4⟩:=h.ex;exact⟨X1,h1,h2.trans (only_below hb _),h3.kept (only_below hb none) (Classical.em _),h4⟩
structure G15 (W:World) (gx gt gl:Nat) (T:List RL) (tn:Nat) (sv:Value) (bb:Bool) (x:World) :Prop where
 bx:Box x gx #[.slice (some ⟨gt,0,none⟩) T.length T.length] 46
 bt:Box x gt (T.map rlv).toArray 49
 bl:Box x gl #[.int .i64 (tn:Nat),sv] 56
 be:bb=false→Below W.heap.size W x
 sz:W.heap.size≤x.heap.size
theorem G15.alloc {W x:World} {gx gt gl tn:Nat} {T:List RL} {sv:Value} {bb:Bool} (h:G15 W gx gt gl T tn sv bb x) (o:Obj) :G15 W gx gt gl T tn sv bb (x.alloc o):=⟨h.bx.below (belA o),h.bt.below (belA o),h.bl.below (belA o),fun e=>bT (h.be e) (belA o),Nat.le_trans h.sz (belA o).size⟩
theorem G15.grown {W x y:World} {gx gt gl tn:Nat} {T:List RL} {sv:Value} {bb:Bool} {row:Option Nat} (h:G15 W gx gt gl T tn sv bb x) (hg:x.grownBy y row) (h1:some gx≠row) (h2:some gt≠row) (h3:some gl≠row) :G15 W gx gt gl T tn sv true y:=⟨h.bx.grown hg h1,h.bt.grown hg h2,h.bl.grown hg h3,fun e=>(by cases e),Nat.le_trans h.sz hg.size⟩
theorem fz_reg15 {gx gt gl B tn:Nat} {T:List RL} {tr:RL} {r:VL} {sv:Value} {W:World} (HIX:Hid (∀W,(Instr.indexAt 44 (.slice (some ⟨gt,0,none⟩) T.length T.length) (.int .i64 (tn:Nat))).run Tryz.prog W = .ok (.pointer (some ⟨gt,tn,none⟩)) W)) (HCT:Hid ((T.map rlv).toArray[tn]? = some (rlv tr))) (HLT:Hid (∀j,(rlv tr).ownBlock=some j→j<W.heap.size)) (HO:Hid (OutV B (rlv tr) tr.l W)) (HLN:Hid (tr.l.length≤1000)) (HNE:Hid (some gx≠(rlv tr).ownBlock∧some gt≠(rlv tr).ownBlock∧some gl≠(rlv tr).ownBlock)) (HG0:Hid (G15 W gx gt gl T tn sv false W.drew)) {Q:Exit→Act→World→Prop} {c:Code} {u0 u1 u2 u3 u4 u6 u9 u10 u11 u12 u13 u14 u15 u16 u17 u18 u19 u20 u21 u22 u23 u24 u25 u26 u27 u28 u29 u30 u31 u32 u33 u34 u35 u36 u37 u38 u39 u40 u41 u42 u43 u44 u45 u46 u47 u48 u49 u50 u51 u52 u53 u54 u55 u56 u57 u58 u59 u60 u61 u62 u63 u64 u65 u66 u67 u68 u69 u70 u71 u72 u73 u74 u75 u76 u77 u78 u79 u80 u81 u82 u83 u84 u85 u86 u87:Value} (hc:c=codeIn [1,1,0,1,4,5,1,1,0,4,1,1,1] (Tryz.f18.body.getD .skip)) (hend: ∀b11 g12 c12 x,FA W B tr r g12 c12 x→Q .normal { tmps:=(u0 :: u1 :: u2 :: u3 :: u4 :: (.pointer (some ⟨gx,0,none⟩)) :: u6 :: (.pointer (some ⟨gl,0,none⟩)) :: (.slice r.h.ao r.l.length r.h.cap) :: u9 :: u10 :: u11 :: u12 :: u13 :: u14 :: u15 :: u16 :: u17 :: u18 :: u19 :: u20 :: u21 :: u22 :: u23 :: u24 :: u25 :: u26 :: u27 :: u28 :: u29 :: u30 :: u31 :: u32 :: u33 :: u34 :: u35 :: u36 :: u37 :: u38 :: u39 :: u40 :: u41 :: u42 :: u43 :: u44 :: u45 :: u46 :: u47 :: u48 :: u49 :: u50 :: u51 :: u52 :: u53 :: u54 :: u55 :: u56 :: u57 :: u58 :: u59 :: u60 :: u61 :: u62 :: u63 :: u64 :: u65 :: u66 :: u67 :: u68 :: u69 :: u70 :: u71 :: .pointer (some ⟨gx,0,none⟩) :: .slice (some ⟨gt,0,none⟩) T.length T.length :: .pointer (some ⟨gl,0,none⟩) :: .int .i64 (tn:Nat) :: .pointer (some ⟨gx,0,none⟩) :: .slice (some ⟨gt,0,none⟩) T.length T.length :: .pointer (some ⟨gl,0,none⟩) :: .int .i64 (tn:Nat) :: .pointer (some ⟨gt,tn,none⟩) :: rlv tr :: .slice r.h.ao r.l.length r.h.cap :: .slice (some ⟨b11,0,none⟩) 1 1 :: .slice (some ⟨g12,0,none⟩) (tr.l.length+1) c12 :: .pointer (some ⟨gt,tn,none⟩) :: u86 :: u87 :: []).toArray,defers:= [] } (x.setCell ⟨gt,tn,none⟩ (.slice (some ⟨g12,0,none⟩) (tr.l.length+1) c12))) :Code.wp Tryz.prog c Q { tmps:=(u0 :: u1 :: u2 :: u3 :: u4 :: (.pointer (some ⟨gx,0,none⟩)) :: u6 :: (.pointer (some ⟨gl,0,none⟩)) :: (.slice r.h.ao r.l.length r.h.cap) :: u9 :: u10 :: u11 :: u12 :: u13 :: u14 :: u15 :: u16 :: u17 :: u18 :: u19 :: u20 :: u21 :: u22 :: u23 :: u24 :: u25 :: u26 :: u27 :: u28 :: u29 :: u30 :: u31 :: u32 :: u33 :: u34 :: u35 :: u36 :: u37 :: u38 :: u39 :: u40 :: u41 :: u42 :: u43 :: u44 :: u45 :: u46 :: u47 :: u48 :: u49 :: u50 :: u51 :: u52 :: u53 :: u54 :: u55 :: u56 :: u57 :: u58 :: u59 :: u60 :: u61 :: u62 :: u63 :: u64 :: u65 :: u66 :: u67 :: u68 :: u69 :: u70 :: u71 :: u72 :: u73 :: u74 :: u75 :: u76 :: u77 :: u78 :: u79 :: u80 :: u81 :: u82 :: u83 :: u84 :: u85 :: u86 :: u87 :: []).toArray,defers:= [] } W:=by
 subst hc;conv=>enter [2];whnf
 refine wp_region_tailH (by kernel_rfl) (by kernel_rfl) 13 (by show 13<_;decide) (by kernel_rfl) (by kernel_rfl) (fun s:Nat→Value=>({ tmps:=(u0 :: u1 :: u2 :: u3 :: u4 :: (.pointer (some ⟨gx,0,none⟩)) :: u6 :: (.pointer (some ⟨gl,0,none⟩)) :: (.slice r.h.ao r.l.length r.h.cap) :: u9 :: u10 :: u11 :: u12 :: u13 :: u14 :: u15 :: u16 :: u17 :: u18 :: u19 :: u20 :: u21 :: u22 :: u23 :: u24 :: u25 :: u26 :: u27 :: u28 :: u29 :: u30 :: u31 :: u32 :: u33 :: u34 :: u35 :: u36 :: u37 :: u38 :: u39 :: u40 :: u41 :: u42 :: u43 :: u44 :: u45 :: u46 :: u47 :: u48 :: u49 :: u50 :: u51 :: u52 :: u53 :: u54 :: u55 :: u56 :: u57 :: u58 :: u59 :: u60 :: u61 :: u62 :: u63 :: u64 :: u65 :: u66 :: u67 :: u68 :: u69 :: u70 :: u71 :: s 72 :: s 73 :: s 74 :: s 75 :: s 76 :: s 77 :: s 78 :: s 79 :: s 80 :: s 81 :: s 82 :: s 83 :: s 84 :: u85 :: u86 :: u87 :: []).toArray,defers:= [] } : Act)) (fun k=>if k=72 then u72 else if k=73 then u73 else if k=74 then u74 else if k=75 then u75 else if k=76 then u76 else if k=77 then u77 else if k=78 then u78 else if k=79 then u79 else if k=80 then u80 else if k=81 then u81 else if k=82 then u82 else if k=83 then u83 else if k=84 then u84 else undef) rfl 12 (by decide) (fun i=>([false,false,false,false,false,false,false,false,false,false,false,false,true] :List Bool).getD i false) (by kernel_rfl) ((fun x y=>x.grownBy y (rlv tr).ownBlock)) (G15 W gx gt gl T tn sv) ?g0 (fun i v x=>(i=11→∃b11,v = .slice (some ⟨b11,0,none⟩) 1 1∧Box x b11 [.slice r.h.ao r.l.length r.h.cap].toArray 96∧W.heap.size≤b11)∧(i=12→∃g12 c12,v = .slice (some ⟨g12,0,none⟩) (tr.l.length+1) c12∧FA W B tr r g12 c12 x)∧(i≠11→i≠12→([.pointer (some ⟨gx,0,none⟩),.slice (some ⟨gt,0,none⟩) T.length T.length,.pointer (some ⟨gl,0,none⟩),.int .i64 (tn:Nat),.pointer (some ⟨gx,0,none⟩),.slice (some ⟨gt,0,none⟩) T.length T.length,.pointer (some ⟨gl,0,none⟩),.int .i64 (tn:Nat),.pointer (some ⟨gt,tn,none⟩),rlv tr,.slice r.h.ao r.l.length r.h.cap,undef,undef] :List Value)[i]? = some v)) (fun i v x y h hb=>⟨fun hi=>(by obtain⟨b11,h0,q0,q1⟩:=h.1 hi;exact⟨b11,h0,q0.below hb,q1⟩),fun hi=>(by obtain⟨g12,c12,h0,q0⟩:=h.2.1 hi;exact⟨g12,c12,h0,q0.below hb⟩),h.2.2⟩) (fun i v x y hd _ _ h hb=>⟨fun hi=>(by obtain⟨b11,h0,q0,q1⟩:=h.1 hi;exact⟨b11,h0,q0.grown hb (fun e=>by have:=HLT.o _ e.symm;omega),q1⟩),fun hi=>(by subst hi;exact absurd hd (by decide)),h.2.2⟩) (fun i=>([72,73,74,75,76,77,78,79,80,81,82,83,84] :List Nat).getD i 0) ?inj ?step ?last
 case g0=>exact HG0.o
 case inj=>
  intro i j hi hj h;have hI:i=0∨i=1∨i=2∨i=3∨i=4∨i=5∨i=6∨i=7∨i=8∨i=9∨i=10∨i=11∨i=12:=by omega
  have hJ:j=0∨j=1∨j=2∨j=3∨j=4∨j=5∨j=6∨j=7∨j=8∨j=9∨j=10∨j=11∨j=12:=by omega
  rcases hI with rfl|rfl|rfl|rfl|rfl|rfl|rfl|rfl|rfl|rfl|rfl|rfl|rfl<;>rcases hJ with rfl|rfl|rfl|rfl|rfl|rfl|rfl|rfl|rfl|rfl|rfl|rfl|rfl<;>first|rfl| (exact absurd h (by decide))
 case last=>
  intro s x hv hgt;have HG:=ai hgt;clear hgt;have z0:s 72 = .pointer (some ⟨gx,0,none⟩):=by have h:=(hv 0 (by decide)).2.2 (by decide) (by decide);injection h with h;exact h.symm
  have z1:s 73 = .slice (some ⟨gt,0,none⟩) T.length T.length:=by have h:=(hv 1 (by decide)).2.2 (by decide) (by decide);injection h with h;exact h.symm
  have z2:s 74 = .pointer (some ⟨gl,0,none⟩):=by have h:=(hv 2 (by decide)).2.2 (by decide) (by decide);injection h with h;exact h.symm
  have z3:s 75 = .int .i64 (tn:Nat):=by have h:=(hv 3 (by decide)).2.2 (by decide) (by decide);injection h with h;exact h.symm
  have z4:s 76 = .pointer (some ⟨gx,0,none⟩):=by have h:=(hv 4 (by decide)).2.2 (by decide) (by decide);injection h with h;exact h.symm
  have z5:s 77 = .slice (some ⟨gt,0,none⟩) T.length T.length:=by have h:=(hv 5 (by decide)).2.2 (by decide) (by decide);injection h with h;exact h.symm
  have z6:s 78 = .pointer (some ⟨gl,0,none⟩):=by have h:=(hv 6 (by decide)).2.2 (by decide) (by decide);injection h with h;exact h.symm
  have z7:s 79 = .int .i64 (tn:Nat):=by have h:=(hv 7 (by decide)).2.2 (by decide) (by decide);injection h with h;exact h.symm
  have z8:s 80 = .pointer (some ⟨gt,tn,none⟩):=by have h:=(hv 8 (by decide)).2.2 (by decide) (by decide);injection h with h;exact h.symm
  have z9:s 81=rlv tr:=by have h:=(hv 9 (by decide)).2.2 (by decide) (by decide);injection h with h;exact h.symm
  have z10:s 82 = .slice r.h.ao r.l.length r.h.cap:=by have h:=(hv 10 (by decide)).2.2 (by decide) (by decide);injection h with h;exact h.symm
  obtain⟨b11,hz11,hg11_0,hg11_1⟩:=(hv 11 (by decide)).1 rfl
  have z11:s 83 = .slice (some ⟨b11,0,none⟩) 1 1:=hz11;clear hz11;obtain⟨g12,c12,hz12,hg12_0⟩:=(hv 12 (by decide)).2.1 rfl
  have z12:s 84 = .slice (some ⟨g12,0,none⟩) (tr.l.length+1) c12:=hz12;clear hz12;clear hv;have HFA:=ai hg12_0;have HG1:=ai HG.o;clear hg12_0 hg11_0 hg11_1 HG;have hixg: ∀W,(Instr.indexAt 44 (.slice (some ⟨gt,0,none⟩) T.length T.length) (.int .i64 (tn:Nat))).run Tryz.prog W = .ok (.pointer (some ⟨gt,tn,none⟩)) W:=HIX.o
  show Oper.wp _ _ _ _ _ _
  refine opwp_K (fun K2 hK2=> ?_)
  go_simp
  refine hK2 _ _ ?_
  show Oper.wp _ _ _ _ _ _
  clear hK2;have o0:=HG1.o.bt.cell (j:=tn) HCT.o
  have f0:=HG1.o.bt.fr tn;refine opwp_K (fun K3 hK3=> ?_)
  go_simp
  refine hK3 _ _ ?_
  have h:=hend b11 g12 c12 x HFA.o
  show Q _ _ _
  first|exact h| (simp only [z0,z1,z2,z3,z4,z5,z6,z7,z8,z9,z10,z11,z12];exact h)
 case step=>
  intro i o s x hin ho he bb hgb hbf hbt;have HG:=ai hgb;clear hgb;have hcase:i=0∨i=1∨i=2∨i=3∨i=4∨i=5∨i=6∨i=7∨i=8∨i=9∨i=10∨i=11∨i=12:=by omega
  rcases hcase with rfl|rfl|rfl|rfl|rfl|rfl|rfl|rfl|rfl|rfl|rfl|rfl|rfl
  ·injection ho with ho
   subst ho;clear he hbf hbt;refine opwp_K (fun K2 hK2=> ?_)
   go_simp
   exact hK2 _ _ ⟨(.pointer (some ⟨gx,0,none⟩)),(by first|rfl| (simp [List.getD];done)),sI_ne (by decide) (Below.refl _ _),gIf_ne (G:=G15 W gx gt gl T tn sv) (by decide) HG.o,⟨fun h=>absurd h (by decide),fun h=>absurd h (by decide),fun _ _=>rfl⟩⟩
  ·injection ho with ho
   subst ho;have z0:s 72 = .pointer (some ⟨gx,0,none⟩):=by have h:=(he ⟨0,.data⟩ (by simp) rfl).2.2 (by decide) (by decide);injection h with h;exact h.symm
   clear he hbf hbt;have k0:=HG.o.bx.cell (j:=0) rfl
   refine opwp_K (fun K2 hK2=> ?_)
   go_simp
   exact hK2 _ _ ⟨(.slice (some ⟨gt,0,none⟩) T.length T.length),(by first|rfl| (simp [z0];done)),sI_ne (by decide) (Below.refl _ _),gIf_ne (G:=G15 W gx gt gl T tn sv) (by decide) HG.o,⟨fun h=>absurd h (by decide),fun h=>absurd h (by decide),fun _ _=>rfl⟩⟩
  ·injection ho with ho
   subst ho;clear he hbf hbt;refine opwp_K (fun K2 hK2=> ?_)
   go_simp
   exact hK2 _ _ ⟨(.pointer (some ⟨gl,0,none⟩)),(by first|rfl| (simp [List.getD];done)),sI_ne (by decide) (Below.refl _ _),gIf_ne (G:=G15 W gx gt gl T tn sv) (by decide) HG.o,⟨fun h=>absurd h (by decide),fun h=>absurd h (by decide),fun _ _=>rfl⟩⟩
  ·injection ho with ho
   subst ho;have z2:s 74 = .pointer (some ⟨gl,0,none⟩):=by have h:=(he ⟨2,.data⟩ (by simp) rfl).2.2 (by decide) (by decide);injection h with h;exact h.symm
   clear he hbf hbt;have k0:=HG.o.bl.cell (j:=0) rfl
   refine opwp_K (fun K2 hK2=> ?_)
   go_simp
   exact hK2 _ _ ⟨(.int .i64 (tn:Nat)),(by first|rfl| (simp [z2];done)),sI_ne (by decide) (Below.refl _ _),gIf_ne (G:=G15 W gx gt gl T tn sv) (by decide) HG.o,⟨fun h=>absurd h (by decide),fun h=>absurd h (by decide),fun _ _=>rfl⟩⟩
  ·injection ho with ho
   subst ho;clear he hbf hbt;refine opwp_K (fun K2 hK2=> ?_)
   go_simp
   exact hK2 _ _ ⟨(.pointer (some ⟨gx,0,none⟩)),(by first|rfl| (simp [List.getD];done)),sI_ne (by decide) (Below.refl _ _),gIf_ne (G:=G15 W gx gt gl T tn sv) (by decide) HG.o,⟨fun h=>absurd h (by decide),fun h=>absurd h (by decide),fun _ _=>rfl⟩⟩
  ·injection ho with ho
   subst ho;have z4:s 76 = .pointer (some ⟨gx,0,none⟩):=by have h:=(he ⟨4,.data⟩ (by simp) rfl).2.2 (by decide) (by decide);injection h with h;exact h.symm
   clear he hbf hbt;have k0:=HG.o.bx.cell (j:=0) rfl
   refine opwp_K (fun K2 hK2=> ?_)
   go_simp
   exact hK2 _ _ ⟨(.slice (some ⟨gt,0,none⟩) T.length T.length),(by first|rfl| (simp [z4];done)),sI_ne (by decide) (Below.refl _ _),gIf_ne (G:=G15 W gx gt gl T tn sv) (by decide) HG.o,⟨fun h=>absurd h (by decide),fun h=>absurd h (by decide),fun _ _=>rfl⟩⟩
  ·injection ho with ho
   subst ho;clear he hbf hbt;refine opwp_K (fun K2 hK2=> ?_)
   go_simp
   exact hK2 _ _ ⟨(.pointer (some ⟨gl,0,none⟩)),(by first|rfl| (simp [List.getD];done)),sI_ne (by decide) (Below.refl _ _),gIf_ne (G:=G15 W gx gt gl T tn sv) (by decide) HG.o,⟨fun h=>absurd h (by decide),fun h=>absurd h (by decide),fun _ _=>rfl⟩⟩
  ·injection ho with ho
   subst ho;have z6:s 78 = .pointer (some ⟨gl,0,none⟩):=by have h:=(he ⟨6,.data⟩ (by simp) rfl).2.2 (by decide) (by decide);injection h with h;exact h.symm
   clear he hbf hbt;have k0:=HG.o.bl.cell (j:=0) rfl
   refine opwp_K (fun K2 hK2=> ?_)
   go_simp
   exact hK2 _ _ ⟨(.int .i64 (tn:Nat)),(by first|rfl| (simp [z6];done)),sI_ne (by decide) (Below.refl _ _),gIf_ne (G:=G15 W gx gt gl T tn sv) (by decide) HG.o,⟨fun h=>absurd h (by decide),fun h=>absurd h (by decide),fun _ _=>rfl⟩⟩
  ·injection ho with ho
   subst ho;have z5:s 77 = .slice (some ⟨gt,0,none⟩) T.length T.length:=by have h:=(he ⟨5,.data⟩ (by simp) rfl).2.2 (by decide) (by decide);injection h with h;exact h.symm
   have z7:s 79 = .int .i64 (tn:Nat):=by have h:=(he ⟨7,.data⟩ (by simp) rfl).2.2 (by decide) (by decide);injection h with h;exact h.symm
   clear he hbf hbt;have hixg: ∀W,(Instr.indexAt 44 (.slice (some ⟨gt,0,none⟩) T.length T.length) (.int .i64 (tn:Nat))).run Tryz.prog W = .ok (.pointer (some ⟨gt,tn,none⟩)) W:=HIX.o;refine opwp_K (fun K2 hK2=> ?_)
   go_simp
   exact hK2 _ _ ⟨(.pointer (some ⟨gt,tn,none⟩)),(by first|rfl| (simp [z5,z7];done)),sI_ne (by decide) (Below.refl _ _),gIf_ne (G:=G15 W gx gt gl T tn sv) (by decide) HG.o,⟨fun h=>absurd h (by decide),fun h=>absurd h (by decide),fun _ _=>rfl⟩⟩
  ·injection ho with ho
   subst ho;have z8:s 80 = .pointer (some ⟨gt,tn,none⟩):=by have h:=(he ⟨8,.data⟩ (by simp) rfl).2.2 (by decide) (by decide);injection h with h;exact h.symm
   clear he hbf hbt;have k0:=HG.o.bt.cell (j:=tn) HCT.o
   refine opwp_K (fun K2 hK2=> ?_)
   go_simp
   exact hK2 _ _ ⟨(rlv tr),(by first|rfl| (simp [z8];done)),sI_ne (by decide) (Below.refl _ _),gIf_ne (G:=G15 W gx gt gl T tn sv) (by decide) HG.o,⟨fun h=>absurd h (by decide),fun h=>absurd h (by decide),fun _ _=>rfl⟩⟩
  ·injection ho with ho
   subst ho;clear he hbf hbt;refine opwp_K (fun K2 hK2=> ?_)
   go_simp
   exact hK2 _ _ ⟨(.slice r.h.ao r.l.length r.h.cap),(by first|rfl| (simp [List.getD];done)),sI_ne (by decide) (Below.refl _ _),gIf_ne (G:=G15 W gx gt gl T tn sv) (by decide) HG.o,⟨fun h=>absurd h (by decide),fun h=>absurd h (by decide),fun _ _=>rfl⟩⟩
  ·injection ho with ho
   subst ho;have z10:s 82 = .slice r.h.ao r.l.length r.h.cap:=by have h:=(he ⟨10,.data⟩ (by simp) rfl).2.2 (by decide) (by decide);injection h with h;exact h.symm
   clear he hbf hbt;refine opwp_K (fun K2 hK2=> ?_)
   go_simp
   exact hK2 _ _ ⟨_,(by first|rfl| (simp [z10];done)),sI_ne (by decide) (belA _),gIf_ne (G:=G15 W gx gt gl T tn sv) (by decide) (HG.o.alloc _),⟨fun _=>⟨_,rfl,Box.new _ _ _,HG.o.sz⟩,fun h=>absurd h (by decide),fun h _=>absurd rfl h⟩⟩
  ·injection ho with ho
   subst ho;have z9:s 81=rlv tr:=by have h:=(he ⟨9,.data⟩ (by simp) rfl).2.2 (by decide) (by decide);injection h with h;exact h.symm
   obtain⟨b11,hz11,hg11_0,hg11_1⟩:=(he ⟨11,.data⟩ (by simp) rfl).1 rfl
   have z11:s 83 = .slice (some ⟨b11,0,none⟩) 1 1:=hz11;clear hz11;obtain rfl:bb=false:=hbf rfl;clear he hbf hbt;obtain⟨i0,hi,hz0,hz1,hz2⟩:=info_parts info_rv;have HBW:=ai (HG.o.be rfl);have hox:=(HO.o.below HBW.o).own;refine wp_append_own_at _ _ 49 rfl B 96 i0 (.slice none 0 0) 1 24 Tryz.underlying49 hi hz0 hz1 hz2 rfl (by decide) (rlv tr) tr.l.length _ (by show s 81=_;exact z9) hox ⟨b11,0,none⟩ 1 1 [.slice r.h.ao r.l.length r.h.cap] (by show s 83=_;exact z11) rfl (box_cells3 hg11_0) (by intro u hu;rw [List.mem_singleton.1 hu];rfl) (by have:=HLN.o;unfold maxLen;omega) (by have:=HLN.o;omega) (Nat.le_trans HO.o.ge HBW.o.size) ?_
   intro v2 y2 hown hgr hbl;obtain⟨g4,cap4,rfl,_,_⟩:=World.ownsRow.form hown (by omega)
   exact⟨_,rfl,sI_eq rfl (hgr),gIf_eq (G:=G15 W gx gt gl T tn sv) (HG.o.grown hgr HNE.o.1 HNE.o.2.1 HNE.o.2.2),⟨fun h=>absurd h (by decide),fun _=>⟨g4,cap4,rfl,⟨_,HBW.o,hgr,hown,hbl⟩⟩,fun _ h=>absurd rfl h⟩⟩
end Go.Proofs.YtiijaaohphokcaaGreatDoor

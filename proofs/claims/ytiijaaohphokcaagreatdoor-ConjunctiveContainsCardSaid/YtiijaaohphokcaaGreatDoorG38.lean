/- Rows that are put out one behind the other; ref07.times. -/
import Derived.Test.YtiijaaohphokcaaGreatDoorG44
import Derived.Test.YtiijaaohphokcaaGreatDoorG31
import Derived.Maps.AppendAt
set_option maxRecDepth 100000
set_option maxHeartbeats 16000000
namespace Go.Proofs.YtiijaaohphokcaaGreatDoor
open Go.RowKit
structure OutV (base:Nat) (lv:Value) (outs:List VL) (w:World) :Prop where
 own:w.ownsRow base 96 1 lv outs.length (outs.flatMap VL.cells)
 ins: ∀r∈outs,r.In w∧(0<r.l.length→lv.ownBlock≠some r.h.b)
 ge:base≤w.heap.size
section
variable {base:Nat} {lv v':Value} {outs:List VL} {w x y:World} {r:VL}
theorem VL.In.any {row:Option Nat} (h:r.In w) (hg:w.grownBy x row) (hn:0<r.l.length→row≠some r.h.b) :r.In x:=⟨row_any h.1 hg (fun hp e=>hn hp e.symm),h.2⟩
theorem OutV.nil (w:World) (base:Nat) (hb:base≤w.heap.size) :OutV base (.slice none 0 0) [] w:=⟨World.ownsRow_nil _ _ _ _,fun r hr=>(by cases hr),hb⟩
theorem OutV.below (h:OutV base lv outs w) (hb:Below w.heap.size w x) :OutV base lv outs x:=⟨h.own.kept (only_below hb none) (Classical.em _),fun r hr=>⟨(h.ins r hr).1.mono hb,(h.ins r hr).2⟩,Nat.le_trans h.ge hb.size⟩
theorem OutV.app (h:OutV base lv outs x) (hr:r.In x) (hro:0<r.l.length→lv.ownBlock≠some r.h.b) (hg:x.grownBy y lv.ownBlock)
  (ho:y.ownsRow base 96 1 v' (outs.length+1) (outs.flatMap VL.cells ++ [.slice r.h.ao r.l.length r.h.cap])) (hb:v'.ownBlock=lv.ownBlock∨v'.ownBlock=some x.heap.size) :OutV base v' (outs ++ [r]) y:=by
 have key: ∀p:VL,p.In x→(0<p.l.length→lv.ownBlock≠some p.h.b)→p.In y∧(0<p.l.length→v'.ownBlock≠some p.h.b):=fun p h1 h2=>by
  refine⟨h1.any hg h2,fun hp e=> ?_⟩
  rcases hb with h3|h3
  ·exact h2 hp (by rw [←h3];exact e)
  ·rw [h3]at e
   injection e with e;have:=h1.1.blk hp;omega
 refine⟨by rw [List.length_append,List.flatMap_append,List.flatMap_cons,List.flatMap_nil,List.append_nil];exact ho,fun p hp=> ?_,Nat.le_trans h.ge hg.size⟩
 rcases List.mem_append.1 hp with hp|hp
 ·exact key p (h.ins p hp).1 (h.ins p hp).2
 ·rw [List.mem_singleton.1 hp];exact key r hr hro
theorem OutV.rl (h:OutV base lv outs w) : ∃r:RL,lv = .slice r.h.ao r.l.length r.h.cap∧r.l=outs∧r.In w:=by
 obtain⟨hd,h1,h2,_⟩:=own_rowE (cells:=VL.cells) (fun _=>rfl) (by decide) h.own
 exact⟨⟨hd,outs⟩,h1,rfl,h2,fun p hp=>(h.ins p hp).1⟩
theorem OutV.off (h:OutV base lv outs w) (hb:w.heap.size≤r.h.b) :lv.ownBlock≠some r.h.b:=fun e=>by
 have:=(h.own.lt _ e).2;omega
end
def OutPost (base:Nat) (lv:Value) (outs:List VL) (rl:List V) (w:World) (v':Value) (w':World) :Prop:=∃r:VL,r.l=rl∧OutV base v' (outs ++ [r]) w'∧w.grownBy w' lv.ownBlock∧(v'.ownBlock=lv.ownBlock∨∃g,v'.ownBlock=some g∧w.heap.size≤g)
theorem times_any (base:Nat) (lv:Value) (outs:List VL) (x:VL) (w:World) (ho:OutV base lv outs w) (hx:x.In w) (hn:x.l.length≤1000) (hl:outs.length≤1000) :
  Calls Tryz.prog 100 #[lv,.slice x.h.ao x.l.length x.h.cap,.int .i64 1] w fun e w'=>∃v',e = .returned v'∧OutPost base lv outs x.l w v' w':=by
 obtain⟨i0,hi,hz0,hz1,hz2⟩:=info_parts info_rv;have HI:=ai (And.intro hi (And.intro hz0 (And.intro hz1 hz2)));have HO:=ai ho;have HX:=ai hx;have HC:=ai (copied_any x w hx hn);have HL:=ai hl;clear hi hz0 hz1 hz2 ho hx hn hl
 go_enter Tryz.func100,Tryz.ntmps100;go_wp2;go_loopw [0,7] (fun v i wr=>(i = .int .i64 0∧v=lv∧wr=w)∨(i = .int .i64 1∧OutPost base lv outs x.l w v wr)) (fun _ i _=>1 - (intOf i).toNat)
 case atStart=>exact .inl ⟨rfl,rfl,rfl⟩
 case round=>
  rcases hrel with⟨rfl,rfl,rfl⟩ | ⟨rfl,hp⟩
  ·go_wp2_with (first
    | (go_at_call 122;refine HC.o.mono ?_;rintro e z ⟨r,rfl,h1,h2,h3,h4⟩;have HR:=ai h1;have HRI:=ai h2;have HRB:=ai h3;have HB:=ai h4;clear h1 h2 h3 h4)
    | (at_builtin;refine wpList_append_own_at _ rfl _ _ 49 rfl base 96 i0 (.slice none 0 0) 1 24 Tryz.underlying49 HI.o.1 HI.o.2.1 HI.o.2.2.1 HI.o.2.2.2 rfl (by decide) _ _ _ rfl ((HO.o.below HB.o).below (belA (.cells #[.slice r.h.ao r.l.length r.h.cap] 96))).own ⟨z.heap.size,0,none⟩ 1 1 [.slice r.h.ao r.l.length r.h.cap] rfl rfl (new_cells (l:= [_])) (by intro u hu;rw [List.mem_singleton.1 hu];rfl) (by have:=HL.o;unfold maxLen;omega) (by have:=HL.o;omega) (by have:=HO.o.ge;have:=HB.o.size;simp;omega) ?_;intro v1 z1 hown hgrow _ hblk;have HW:=ai hown;have HG:=ai hgrow;have HK:=ai hblk;clear hown hgrow hblk))
   have HZ:=ai (bT HB.o (belA (w:=z) (.cells #[.slice r.h.ao r.l.length r.h.cap] 96)))
   have HOV:=ai (((HO.o.below HB.o).below (belA (.cells #[.slice r.h.ao r.l.length r.h.cap] 96))).app (HRI.o.mono (belA _)) (fun _=>HO.o.off (by rw [HRB.o];exact Nat.le_refl _)) HG.o HW.o HK.o)
   have HGG:=ai ((only_below HZ.o _).trans HG.o);have HKK:=ai (HK.o.imp id (fun h=>(⟨_,h,HZ.o.size⟩ : ∃g,v1.ownBlock=some g∧wr.heap.size≤g)))
   go_roundw
   case rel=>exact .inr ⟨rfl,r,HR.o,HOV.o,HGG.o,HKK.o⟩
   case measure=>simp [intOf]
  ·have HP:=ai hp
   clear hp;go_wp2;go_ret
   exact⟨_,rfl,HP.o⟩
end Go.Proofs.YtiijaaohphokcaaGreatDoor
/- Merging and grouping lists that are in order, plainly. -/
namespace Go.Proofs.YtiijaaohphokcaaGreatDoor
open Go.RowKit
section
variable {α:Type} {c:α→α→Int} {A B X Y O:List α} {i j k l:Nat} {r:α}
abbrev Asc (c:α→α→Int) (A:List α) :Prop:=A.Pairwise (fun x y=>¬c y x<0)
theorem IsCmp.lt_or (h:IsCmp c) {a b:α} (h1: ¬c b a<0) :a=b∨c a b<0:=by
 by_cases e:c b a=0
 ·exact .inl ((h.eq _ _).1 e).symm
 ·exact .inr ((h.anti _ _).2 (by omega))
theorem IsCmp.lt_le (h:IsCmp c) {a b d:α} (h1:c a b<0) (h2: ¬c d b<0) :c a d<0:=by
 rcases h.lt_or h2 with e|e
 ·rw [←e];exact h1
 ·exact h.tr _ _ _ h1 e
theorem IsCmp.le_of (h:IsCmp c) {a b:α} (h1:c a b≤0) : ¬c b a<0:=fun h2=>by
 have:=(h.anti _ _).1 h2;omega
theorem IsCmp.le_le (h:IsCmp c) {a b d:α} (h1: ¬c b a<0) (h2: ¬c d b<0) : ¬c d a<0:=by
 rcases h.lt_or h1 with e|e
 ·rw [e];exact h2
 ·exact h.le_of (by have:=h.lt_le e h2;omega)
theorem drop_cons {A:List α} (hi:i<A.length) :A.drop i=A[i] :: A.drop (i+1):=List.drop_eq_getElem_cons hi
theorem asc_head (hA:Asc c A) (hi:i<A.length) : ∀v∈A.drop (i+1),¬c v A[i] <0:=fun v hv=>by
 have h:Asc c (A.drop i):=hA.sublist (List.drop_sublist _ _);rw [drop_cons hi]at h;exact(List.pairwise_cons.1 h).1 v hv
theorem IsCmp.asc_min (h:IsCmp c) (hA:Asc c A) (hi:i<A.length) : ∀v∈A.drop i,¬c v A[i] <0:=fun v hv=>by
 rw [drop_cons hi]at hv;rcases List.mem_cons.1 hv with rfl|hv
 ·rw [h.self];omega
 ·exact asc_head hA hi v hv
theorem mem_drop_lt {v:α} (hv:v∈A.drop i) :i<A.length:=by
 apply Classical.byContradiction
 intro hn;rw [List.drop_of_length_le (by omega)]at hv
 cases hv
structure Mg (c:α→α→Int) (A B O:List α) (i k:Nat) :Prop where
 hi:i≤A.length
 hk:k≤B.length
 perm:O.Perm (A.take i ++ B.take k)
 srt:Asc c O
 le: ∀o∈O,(∀v∈A.drop i,¬c v o<0)∧∀v∈B.drop k,¬c v o<0
theorem Mg.nil (c:α→α→Int) (A B:List α) :Mg c A B [] 0 0:=⟨Nat.zero_le _,Nat.zero_le _,List.Perm.refl _,List.Pairwise.nil,fun o ho=>(by cases ho)⟩
theorem Mg.swap (m:Mg c A B O i k) :Mg c B A O k i:=⟨m.hk,m.hi,m.perm.trans List.perm_append_comm,m.srt,fun o ho=>⟨(m.le o ho).2,(m.le o ho).1⟩⟩
theorem Mg.left (m:Mg c A B O i k) (h:IsCmp c) (sA:Asc c A) (sB:Asc c B) (hi:i<A.length) (hc: ∀hk:k<B.length,c A[i] B[k]≤0) :Mg c A B (O ++ [A[i]]) (i+1) k:=by
 refine⟨hi,m.hk,?_,?_,fun o ho=> ?_⟩
 ·have e:A.take (i+1) =A.take i ++ [A[i]]:=(List.take_append_getElem hi).symm
  rw [e];refine(m.perm.append_right [A[i]]).trans ?_
  rw [List.append_assoc,List.append_assoc];exact List.Perm.append_left _ List.perm_append_comm
 ·refine List.pairwise_append.2 ⟨m.srt,List.pairwise_singleton _ _,fun o ho v hv=> ?_⟩
  rw [List.mem_singleton.1 hv];exact(m.le o ho).1 _ (by rw [drop_cons hi];exact List.mem_cons_self)
 ·rcases List.mem_append.1 ho with ho|ho
  ·exact⟨fun v hv=>(m.le o ho).1 v (by rw [drop_cons hi];exact List.mem_cons_of_mem _ hv),(m.le o ho).2⟩
  ·rw [List.mem_singleton.1 ho]
   refine⟨asc_head sA hi,fun v hv=> ?_⟩
   have hk:=mem_drop_lt hv;exact h.le_le (h.le_of (hc hk)) (h.asc_min sB hk v hv)
theorem Mg.right (m:Mg c A B O i k) (h:IsCmp c) (sA:Asc c A) (sB:Asc c B) (hk:k<B.length) (hc: ∀hi:i<A.length,¬c A[i] B[k]≤0) :Mg c A B (O ++ [B[k]]) i (k+1):=
 (m.swap.left h sB sA hk (fun hi=>by have h1:=hc hi;have:=(h.anti B[k] A[i]).2 (by omega);omega)).swap
theorem Mg.done (m:Mg c A B O A.length B.length) :O.Perm (A ++ B):=by
 have h:=m.perm
 rwa [List.take_length,List.take_length]at h
def cnt (c:α→α→Int) (X:List α) (a:α) :Nat:=X.countP (fun u=>c u a == 0)
theorem cnt_zero (h:IsCmp c) (hx: ∀u∈X,u≠r) :cnt c X r=0:=List.countP_eq_zero.2 (fun u hu=>by
 rw [beq_iff_eq,h.eq];exact hx u hu)
theorem cnt_all (h:IsCmp c) (hx: ∀u∈X,u=r) :cnt c X r=X.length:=List.countP_eq_length.2 (fun u hu=>by
 rw [beq_iff_eq,h.eq];exact hx u hu)
theorem cnt_pos (h:IsCmp c) :0<cnt c X r↔r∈X:=by
 unfold cnt
 rw [List.countP_pos_iff];exact⟨fun⟨u,hu,e⟩=>by rw [beq_iff_eq,h.eq]at e;exact e▸hu,fun hr=>⟨r,hr,by rw [beq_iff_eq,h.eq]⟩⟩
theorem cnt_one (h:IsCmp c) (hn:X.Nodup) :cnt c X r≤1:=by
 induction X with
 | nil=>exact Nat.zero_le _
 | cons a X ih=>
  obtain⟨h1,h2⟩:=List.nodup_cons.1 hn
  unfold cnt
  rw [List.countP_cons];by_cases e:c a r=0
  ·have ea:=(h.eq _ _).1 e
   have:cnt c X r=0:=cnt_zero h (fun u hu e2=>h1 (by rw [ea,←e2];exact hu))
   unfold cnt at this
   rw [this,beq_iff_eq.2 e];exact Nat.le_refl _
  ·rw [beq_eq_false_iff_ne.2 e]
   exact ih h2
theorem cnt_perm (hp:X.Perm Y) :cnt c X r=cnt c Y r:=hp.countP_eq _
structure Run (X:List α) (r:α) (i j:Nat) :Prop where
 le:i≤j
 ge:j≤X.length
 all: ∀u∈(X.drop i).take (j - i),u=r
theorem Run.zero (hi:i≤X.length) :Run X r i i:=⟨Nat.le_refl _,hi,fun u hu=>by rw [Nat.sub_self,List.take_zero]at hu;cases hu⟩
theorem Run.step (h:Run X r i j) (hj:j<X.length) (he:X[j] =r) :Run X r i (j+1):=by
 have hl:=h.le;refine⟨by omega,hj,fun u hu=> ?_⟩
 have e: (X.drop i).take (j+1 - i) = (X.drop i).take (j - i) ++ [(X.drop i)[j - i]'(by rw [List.length_drop];omega)]:=by
  rw [show j+1 - i=j - i+1 by omega]
  exact(List.take_append_getElem _).symm
 rw [e]at hu;rcases List.mem_append.1 hu with hu|hu
 ·exact h.all u hu
 ·rw [List.mem_singleton.1 hu,List.getElem_drop,←he]
  congr 1
  omega
theorem Run.take (h:Run X r i j) :X.take j=X.take i ++ (X.drop i).take (j - i):=by
 have:=h.le;rw [←List.take_add]
 congr 1
 omega
theorem Run.drop (h:Run X r i j) :X.drop i= (X.drop i).take (j - i) ++ X.drop j:=by
 have:=h.le;have e:X.drop j= (X.drop i).drop (j - i):=by rw [List.drop_drop];congr 1;omega
 rw [e,List.take_append_drop]
theorem Run.gt (h:Run X r i j) (hc:IsCmp c) (sX:Asc c X) (stop: ∀hj:j<X.length,X[j]≠r) (hm: ∀v∈X.drop i,¬c v r<0) : ∀v∈X.drop j,c r v<0:=fun v hv=>by
 have hj:=mem_drop_lt hv;have h1:X[j]∈X.drop i:=by rw [h.drop,drop_cons hj];exact List.mem_append_right _ List.mem_cons_self
 have h2:c r X[j] <0:=(hc.lt_or (hm _ h1)).resolve_left (fun e=>stop hj e.symm)
 exact hc.lt_le h2 (hc.asc_min sX hj v hv)
theorem Run.cnt (h:Run X r i j) (hc:IsCmp c) (h1: ∀u∈X.take i,c u r<0) (h2: ∀v∈X.drop j,c r v<0) :cnt c X r=j - i:=by
 have e:X=X.take i ++ ((X.drop i).take (j - i) ++ X.drop j):=by rw [←h.drop,List.take_append_drop]
 have e1:Go.Proofs.YtiijaaohphokcaaGreatDoor.cnt c (X.take i) r=0:=cnt_zero hc (fun u hu e=>by have:=h1 u hu;rw [e,hc.self]at this;omega)
 have e2:Go.Proofs.YtiijaaohphokcaaGreatDoor.cnt c (X.drop j) r=0:=cnt_zero hc (fun u hu e=>by have:=h2 u hu;rw [e,hc.self]at this;omega)
 have e3:=cnt_all hc h.all;have hl: ((X.drop i).take (j - i)).length=j - i:=by rw [List.length_take,List.length_drop];have:=h.ge;omega
 have e4:Go.Proofs.YtiijaaohphokcaaGreatDoor.cnt c X r=Go.Proofs.YtiijaaohphokcaaGreatDoor.cnt c (X.take i) r+ (Go.Proofs.YtiijaaohphokcaaGreatDoor.cnt c ((X.drop i).take (j - i)) r+Go.Proofs.YtiijaaohphokcaaGreatDoor.cnt c (X.drop j) r):=by
  conv=>lhs;rw [e]
  unfold Go.Proofs.YtiijaaohphokcaaGreatDoor.cnt
  rw [List.countP_append,List.countP_append]
 rw [e4,e1,e2,e3,hl];omega
structure Gi (c:α→α→Int) (X Y:List α) (G:List (α×Nat×Nat)) (i k:Nat) :Prop where
 hi:i≤X.length
 hk:k≤Y.length
 sep: ∀u,(u∈X.take i∨u∈Y.take k)→∀v,(v∈X.drop i∨v∈Y.drop k)→c u v<0
 mem: ∀u,(∃g∈G,g.1=u)↔(u∈X.take i∨u∈Y.take k)
 nd: (G.map Prod.fst).Nodup
 cn: ∀g∈G,g.2.1=cnt c X g.1∧g.2.2=cnt c Y g.1
theorem Gi.nil (c:α→α→Int) (X Y:List α) :Gi c X Y [] 0 0:=
 ⟨Nat.zero_le _,Nat.zero_le _,fun u hu=>by simp at hu,fun u=>by simp,List.nodup_nil,fun g hg=>by cases hg⟩
theorem Run.has (h:Run X r i j) (hr:r∈X.drop i) (hg: ∀v∈X.drop j,c r v<0) (hc:IsCmp c) :r∈(X.drop i).take (j - i):=by
 rw [h.drop]at hr;rcases List.mem_append.1 hr with hr|hr
 ·exact hr
 ·have:=hg r hr
  rw [hc.self]at this;omega
theorem Gi.step {G:List (α×Nat×Nat)} (g:Gi c X Y G i k) (hc:IsCmp c) (sX:Asc c X) (sY:Asc c Y) (hr:r∈X.drop i∨r∈Y.drop k) (hm: ∀v,(v∈X.drop i∨v∈Y.drop k)→¬c v r<0)
  (rX:Run X r i j) (stX: ∀hj:j<X.length,X[j]≠r) (rY:Run Y r k l) (stY: ∀hl:l<Y.length,Y[l]≠r) :Gi c X Y (G ++ [(r,j - i,l - k)]) j l∧i+k<j+l:=by
 have gX:=rX.gt hc sX stX (fun v hv=>hm v (.inl hv))
 have gY:=rY.gt hc sY stY (fun v hv=>hm v (.inr hv))
 have old: ∀u,(u∈X.take i∨u∈Y.take k)→c u r<0:=fun u hu=>g.sep u hu r hr
 have has:r∈(X.drop i).take (j - i)∨r∈(Y.drop k).take (l - k):=hr.imp (fun h=>rX.has h gX hc) (fun h=>rY.has h gY hc)
 have tk: ∀u,(u∈X.take j∨u∈Y.take l)→(u∈X.take i∨u∈Y.take k)∨u=r:=fun u hu=>by
  rw [rX.take,rY.take]at hu;rcases hu with hu|hu
  ·rcases List.mem_append.1 hu with hu|hu
   ·exact .inl (.inl hu)
   ·exact .inr (rX.all u hu)
  ·rcases List.mem_append.1 hu with hu|hu
   ·exact .inl (.inr hu)
   ·exact .inr (rY.all u hu)
 have hlt:i+k<j+l:=by
  have h1:=rX.le;have h2:=rY.le;rcases has with h|h
  ·have:=List.length_pos_of_mem h
   rw [List.length_take]at this;omega
  ·have:=List.length_pos_of_mem h
   rw [List.length_take]at this;omega
 refine⟨⟨rX.ge,rY.ge,fun u hu v hv=> ?_,fun u=>⟨?_,fun hu=> ?_⟩,?_,fun q hq=> ?_⟩,hlt⟩
 ·have hv2:v∈X.drop i∨v∈Y.drop k:=hv.imp (fun h=>by rw [rX.drop];exact List.mem_append_right _ h) (fun h=>by rw [rY.drop];exact List.mem_append_right _ h)
  rcases tk u hu with hu|rfl
  ·exact g.sep u hu v hv2
  ·exact hv.elim (gX v) (gY v)
 ·rintro ⟨q,hq,rfl⟩
  rw [rX.take,rY.take];rcases List.mem_append.1 hq with hq|hq
  ·exact((g.mem q.1).1 ⟨q,hq,rfl⟩).imp (List.mem_append_left _) (List.mem_append_left _)
  ·rw [List.mem_singleton.1 hq]
   exact has.imp (List.mem_append_right _) (List.mem_append_right _)
 ·rcases tk u hu with hu|rfl
  ·obtain⟨q,hq,e⟩:=(g.mem u).2 hu
   exact⟨q,List.mem_append_left _ hq,e⟩
  ·exact⟨_,List.mem_append_right _ (List.mem_singleton.2 rfl),rfl⟩
 ·rw [List.map_append]
  refine List.nodup_append.2 ⟨g.nd,by simp,fun a ha b hb e=> ?_⟩
  obtain⟨q,hq,rfl⟩:=List.mem_map.1 ha;have hb:b=r:=List.mem_singleton.1 hb;have:=old q.1 ((g.mem q.1).1 ⟨q,hq,rfl⟩);rw [e,hb,hc.self]at this;omega
 ·rcases List.mem_append.1 hq with hq|hq
  ·exact g.cn q hq
  ·rw [List.mem_singleton.1 hq]
   exact⟨(rX.cnt hc (fun u hu=>old u (.inl hu)) gX).symm,(rY.cnt hc (fun u hu=>old u (.inr hu)) gY).symm⟩
theorem min_left (h:IsCmp c) (sX:Asc c X) (sY:Asc c Y) (hi:i<X.length) (hc: ∀hk:k<Y.length,c X[i] Y[k]≤0) : ∀v,(v∈X.drop i∨v∈Y.drop k)→¬c v X[i] <0:=fun v hv=>by
 rcases hv with hv|hv
 ·exact h.asc_min sX hi v hv
 ·have hk:=mem_drop_lt hv
  exact h.le_le (h.le_of (hc hk)) (h.asc_min sY hk v hv)
theorem min_right (h:IsCmp c) (sX:Asc c X) (sY:Asc c Y) (hk:k<Y.length) (hc: ∀hi:i<X.length,¬c X[i] Y[k]≤0) : ∀v,(v∈X.drop i∨v∈Y.drop k)→¬c v Y[k] <0:=fun v hv=>
 min_left h sY sX hk (fun hi=>by have h1:=hc hi;have:=(h.anti Y[k] X[i]).2 (by omega);omega) v hv.symm
structure GOk (c:α→α→Int) (A B:List α) (G:List (α×Nat×Nat)) :Prop where
 mem: ∀u,(∃g∈G,g.1=u)↔(u∈A∨u∈B)
 nd: (G.map Prod.fst).Nodup
 cn: ∀g∈G,g.2.1=cnt c A g.1∧g.2.2=cnt c B g.1
theorem Gi.done {G:List (α×Nat×Nat)} (g:Gi c X Y G X.length Y.length) (hA:X.Perm A) (hB:Y.Perm B) :GOk c A B G:=by
 refine⟨fun u=> ?_,g.nd,fun q hq=> ?_⟩
 ·rw [g.mem u,List.take_length,List.take_length,hA.mem_iff,hB.mem_iff]
 ·rw [(g.cn q hq).1,(g.cn q hq).2]
  exact⟨cnt_perm hA,cnt_perm hB⟩
theorem GOk.sub {G:List (α×Nat×Nat)} (g:GOk c A B G) (h:IsCmp c) (hA:A.Nodup) (hB:B.Nodup) : (∀q∈G,¬q.2.1<q.2.2)↔∀u∈B,u∈A:=by
 constructor
 ·intro hq u hu
  obtain⟨q,hq1,rfl⟩:=(g.mem u).2 (.inr hu);have h1:=hq q hq1;rw [(g.cn q hq1).1,(g.cn q hq1).2]at h1;have h2:=(cnt_pos h).2 hu;exact(cnt_pos h).1 (by omega)
 ·intro hs q hq1 hlt
  rw [(g.cn q hq1).1,(g.cn q hq1).2]at hlt;have h2:q.1∈B:=(cnt_pos h).1 (by omega)
  have h3:=(cnt_pos h).2 (hs _ h2);have h4:=cnt_one (r:=q.1) h hB
  omega
end
end Go.Proofs.YtiijaaohphokcaaGreatDoor
/- ref07.Canonical: the rows in order. -/
namespace Go.Proofs.YtiijaaohphokcaaGreatDoor
open Go.RowKit
def CanPost (x:RL) (w:World) (e:Ending) (w':World) :Prop:=∃r:RL,e = .returned (.slice r.h.ao r.l.length r.h.cap)∧r.In w'∧r.rows.Perm x.rows∧Asc cmpR r.rows∧(∀v∈r.l,v.l.length≤1000)∧Below w.heap.size w w'
theorem asc_few {l:List (List V)} (h:l.length<2) :Asc cmpR l:=by
 rcases l with _| ⟨a,_| ⟨b,l⟩⟩
 ·exact List.Pairwise.nil
 ·exact List.pairwise_singleton _ _
 ·simp at h;omega
theorem vl_at1 {w:World} {h:Hd} {i:Nat} {xs:List VL} (hr:Row w 1 VL.cells h xs) (hi:i<xs.length) :w.cell? ⟨h.b,h.o+i,none⟩ =some (.slice xs[i].h.ao xs[i].l.length xs[i].h.cap):=by
 have:=hr.2.2.2 i hi 0 _ rfl
 simpa using this
theorem szrows: (Tryz.prog.info? 96).map (·.size) =some 1:=by kernel_rfl
theorem rl_take {w:World} {h:Hd} {l:List VL} (hr:RL.In w ⟨h,l⟩) (m:Nat) :RL.In w ⟨h,l.take m⟩:=by
 obtain⟨⟨h1,h2,h3,h4⟩,h5⟩:=hr;have hl: (l.take m).length≤l.length:=List.length_take_le' _ _;refine⟨⟨by show(l.take m).length≤h.cap;have h1:l.length≤h.cap:=h1;omega,h2,fun hp=>h3 (Nat.lt_of_lt_of_le hp hl),fun i hi j v hv=>h4 i (Nat.lt_of_lt_of_le hi hl) j v ?_⟩,fun r hr=>h5 r (List.mem_of_mem_take hr)⟩
 rw [←hv]
 congr 2
 exact(List.getElem_take ..).symm
theorem rl_drop {w:World} {b o cap:Nat} {l:List VL} (hr:RL.In w ⟨⟨some ⟨b,o,none⟩,cap⟩,l⟩) {m:Nat} (hm:m≤l.length) :RL.In w ⟨⟨some ⟨b,o+m,none⟩,cap - m⟩,l.drop m⟩:=by
 obtain⟨⟨h1,h2,h3,h4⟩,h5⟩:=hr;have h1:l.length≤cap:=h1;have h2:cap≤maxLen:=h2;have hl: (l.drop m).length=l.length - m:=List.length_drop;refine⟨⟨by show(l.drop m).length≤cap - m;omega,by show cap - m≤maxLen;omega,fun hp=>⟨rfl,(h3 (by show 0<l.length;have hp:0< (l.drop m).length:=hp;omega)).2⟩,fun i hi j v hv=> ?_⟩,fun r hr=>h5 r (List.mem_of_mem_drop hr)⟩
 have hi:i< (l.drop m).length:=hi;have h:=h4 (m+i) (by show m+i<l.length;omega) j v (by rw [←hv];congr 2;exact(List.getElem_drop ..).symm)
 rw [←h]
 show w.cell? ⟨b,o+m+i*1+j,none⟩ =w.cell? ⟨b,o+ (m+i) *1+j,none⟩
 congr 2
 omega
theorem canon_few (x:RL) (w:World) (hx:x.In w) (hr: ∀v∈x.l,v.l.length≤1000) (h2:x.l.length<2) :Calls Tryz.prog 80 #[.slice x.h.ao x.l.length x.h.cap] w (CanPost x w):=by
 obtain⟨i0,hi,hz0,hz1,hz2⟩:=info_parts info_rv;have HI:=ai (And.intro hi (And.intro hz0 (And.intro hz1 hz2)));have HX:=ai hx;have HR:=ai hr;have h2i: (x.l.length:Int) <2:=by omega
 clear hi hz0 hz1 hz2 hx hr
 go_enter Tryz.func80,Tryz.ntmps80;go_wp2;go_loopw [3,4] (fun v i wr=>∃(k:Nat) (outs:List VL),k≤x.l.length∧i = .int .i64 k∧Hid (OutV w.heap.size v outs wr)∧Hid (outs.map VL.l=x.rows.take k)∧Hid (Below w.heap.size w wr)) (fun _ i _=>x.l.length - (intOf i).toNat)
 case atStart=>exact⟨0,[],Nat.zero_le _,rfl,ai (OutV.nil _ _ (Nat.le_refl _)),ai rfl,ai (Below.refl _ _)⟩
 case round=>
  obtain⟨k,outs,hk,rfl,HO,HE,HB⟩:=hrel;have HXW:=ai (HX.o.mono HB.o);have HLN:=ai (show outs.length=k from by have:=congrArg List.length HE.o;rw [List.length_map,List.length_take]at this;unfold RL.rows at this;rw [List.length_map]at this;omega)
  by_cases hlt:k<x.l.length
  ·have hlti: (k:Int) <x.l.length:=by omega
   have hix:=HXW.o.1.ix hlt Tryz.underlying49 szrows;have c0:=vl_at1 HXW.o.1 hlt;obtain⟨v,hv⟩ : ∃v,x.l[k] =v:=⟨_,rfl⟩;have hvm:v∈x.l:=hv▸List.getElem_mem hlt;have hxr:x.rows.take (k+1) =x.rows.take k ++ [v.l]:=by
    rw [←hv]
    unfold RL.rows
    rw [←List.map_take,←List.map_take,←List.take_append_getElem hlt,List.map_append]
    rfl
   have HXR:=ai hxr;rw [hv]at c0;have HCP:=ai (copied_any v wr (HXW.o.2 v hvm) (HR.o v hvm));have HK:=ai (show k<1000 from by omega)
   clear hv hvm hxr;go_wp2_with (first
    | (go_at_call 122;refine HCP.o.mono ?_;rintro e z ⟨r,rfl,h1,h2,h3,h4⟩;have HRL:=ai h1;have HRI:=ai h2;have HRB:=ai h3;have HZ:=ai h4;clear h1 h2 h3 h4)
    | (at_builtin;refine wpList_append_own_at _ rfl _ _ 49 rfl w.heap.size 96 i0 (.slice none 0 0) 1 24 Tryz.underlying49 HI.o.1 HI.o.2.1 HI.o.2.2.1 HI.o.2.2.2 rfl (by decide) _ _ _ rfl ((HO.o.below HZ.o).below (belA (.cells #[.slice r.h.ao r.l.length r.h.cap] 96))).own ⟨z.heap.size,0,none⟩ 1 1 [.slice r.h.ao r.l.length r.h.cap] rfl rfl (new_cells (l:= [_])) (by intro u hu;rw [List.mem_singleton.1 hu];rfl) (by have:=HLN.o;have:=HK.o;unfold maxLen;omega) (by have:=HLN.o;have:=HK.o;omega) (by have:=HO.o.ge;have:=HZ.o.size;simp;omega) ?_;intro v1 z1 hown hgrow _ hblk;have HW:=ai hown;have HG:=ai hgrow;have HB1:=ai hblk;clear hown hgrow hblk))
   have HOV:=ai (((HO.o.below HZ.o).below (belA (.cells #[.slice r.h.ao r.l.length r.h.cap] 96))).app (HRI.o.mono (belA _)) (fun _=>HO.o.off (by rw [HRB.o];exact Nat.le_refl _)) HG.o HW.o HB1.o)
   have HBZ:=ai (show Below w.heap.size w z1 from(bT (bT HB.o HZ.o) (belA _)).grown HG.o (by have:=HB.o.size;have:=HZ.o.size;simp;omega) (fun j hj=>(HO.o.own.lt j hj).1))
   go_roundw
   case rel=>exact⟨k+1,outs ++ [r],by omega,by go_num,HOV,ai (by rw [List.map_append,HE.o,HXR.o,List.map_cons,List.map_nil,HRL.o]),HBZ⟩
   case measure=>simp [intOf];omega
  ·have hlti: ¬(k:Int) <x.l.length:=by omega
   have hkx:k=x.l.length:=by omega
   obtain⟨r,h1,h2,h3⟩:=HO.o.rl;subst h1;have HRI:=ai h3;have HRL:=ai h2;clear h2 h3;go_wp2;go_ret
   refine⟨r,rfl,HRI.o,?_,?_,fun v hv=> ?_,HB.o⟩
   ·unfold RL.rows
    rw [HRL.o,HE.o,hkx,List.take_of_length_le (by unfold RL.rows;rw [List.length_map];exact Nat.le_refl _)]
    exact List.Perm.refl _
   ·exact asc_few (by unfold RL.rows;rw [HRL.o,List.length_map,HLN.o];omega)
   ·rw [HRL.o]at hv
    have h4:v.l∈x.rows.take k:=by rw [←HE.o];exact List.mem_map_of_mem hv
    obtain⟨u,hu,e⟩:=List.mem_map.1 (List.mem_of_mem_take h4);rw [←e];exact HR.o u hu
end Go.Proofs.YtiijaaohphokcaaGreatDoor

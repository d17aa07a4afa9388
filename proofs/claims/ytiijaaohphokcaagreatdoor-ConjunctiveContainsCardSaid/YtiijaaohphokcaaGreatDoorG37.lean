/- Conjunctive queries, plainly: queries that are equal as bags have the same rows but for their order. -/
import Derived.Test.YtiijaaohphokcaaGreatDoorG31
import Derived.Test.YtiijaaohphokcaaGreatDoorG30
import Derived.Test.YtiijaaohphokcaaGreatDoorG08
import Derived.Test.YtiijaaohphokcaaGreatDoorG36
import Derived.Test.YtiijaaohphokcaaGreatDoorG33
set_option maxRecDepth 100000
set_option maxHeartbeats 16000000
namespace Go.Proofs.YtiijaaohphokcaaGreatDoor
section
variable {K:Type}
def Ren (S:Nat→Prop) (g:Nat→Nat) (σ σ':Vb K) :Prop:=∀x,S x→σ' (g x) =σ x
def RelO (S:Nat→Prop) (g:Nat→Nat) (o o':Option (Vb K)) :Prop:=(o=none∧o'=none)∨∃a b,o=some a∧o'=some b∧Ren S g a b
theorem evalL_len {D:Nat→List (List K)} {hd:Vb K→List K} {n:Nat} (hn: ∀t,(D t).length≤n) : ∀(ls:List (Lt K)) (σ:Vb K),(evalL D hd ls σ).length≤n ^ ls.length
 | [],σ=>by show 1≤n ^ 0;simp
 | l :: ls,σ=>by
  show((D l.1).flatMap _).length≤n ^ (ls.length+1)
  have key: ∀(rows:List (List K)) (F:List K→List (List K)),(∀r,(F r).length≤n ^ ls.length)→(rows.flatMap F).length≤rows.length*n ^ ls.length:=by
   intro rows F hF
   induction rows with
   | nil=>simp
   | cons r rows ih=>
    rw [List.flatMap_cons,List.length_append,List.length_cons,Nat.succ_mul];have:=hF r;omega
  have h1:=key (D l.1) (fun row=>match fitsL σ l.2 row with|none=> [] |some s=>evalL D hd ls s) (fun r=>by
   show(match fitsL σ l.2 r with|none=> [] |some s=>evalL D hd ls s).length≤_
   cases fitsL σ l.2 r with
   | none=>exact Nat.zero_le _
   | some s=>exact evalL_len hn ls s)
  refine Nat.le_trans h1 ?_
  rw [Nat.pow_succ,Nat.mul_comm];exact Nat.mul_le_mul_left _ (hn _)
end
end Go.Proofs.YtiijaaohphokcaaGreatDoor
/- The laws of layer 27: what is held on the way. -/
namespace Go.Proofs.YtiijaaohphokcaaGreatDoor
open Go.RowKit
def QL (s:Sch) (w:World) (l:List (Nat×Cq)) (x:World) :Prop:=∀p∈l,Box x p.1 (qcells p.2) 32∧RightQ x (colT s) p.2 (w.heap.size+1)∧w.heap.size<p.1
section
variable {w w2 x y:World} {L:IL} {s:Sch} {qb a a2:Nat} {q r p:Cq} {l:List (Nat×Cq)}
theorem QL.below (h:QL s w l x) (hb:Below x.heap.size x y) :QL s w l y:=fun p hp=>⟨(h p hp).1.below hb,(h p hp).2.1.mono hb,(h p hp).2.2⟩
theorem QL.turn (h:QL s w l x) (hg:x.grownBy y (some w.heap.size)) :QL s w l y:=fun p hp=>by
 obtain⟨h1,h2,h3⟩:=h p hp;exact⟨h1.grown hg (by intro e;injection e with e;omega),h2.grown hg (by omega),h3⟩
theorem QL.add (h:QL s w l y) (hr:RightQ y (colT s) r (w.heap.size+1)) (hw:w.heap.size<y.heap.size) :QL s w ((y.heap.size,r) :: l) (y.alloc (.cells (qcells r) 32)):=fun p hp=>by
 rcases List.mem_cons.1 hp with rfl|hp
 ·exact⟨Box.new _ _ _,hr.mono (belA _),hw⟩
 ·exact(h.below (belA _)) p hp
theorem QL.box1 {g:Nat} (h:QL s w ((g,r) :: l) x) :Box x g (qcells r) 32:=(h _ List.mem_cons_self).1
theorem QL.tl {g:Nat} (h:QL s w ((g,r) :: l) x) :QL s w l x:=fun p hp=>h p (List.mem_cons_of_mem _ hp)
theorem QL.nil:QL s w [] x:=fun p hp=>(by cases hp)
theorem LC.lt (h:LC w L s w2 qb a q x) :w.heap.size<x.heap.size:=Nat.lt_trans h.lo h.bs.lt
theorem LC.fine (h:LC w L s w2 qb a q x) (hs: ∀z,w2.grownBy z (some w.heap.size)→s.In z) (hp:PSch s) (hsh:w.ShapedOpen Tryz.prog) {r:Cq} {B:Nat} (rq:RightQ x (colT s) r B) :Fine x s r:=fine_of (hs x h.gr) hp rq (ShX hsh h.bel)
theorem lc_contains (h:LC w L s w2 qb a q x) (hs: ∀z,w2.grownBy z (some w.heap.size)→s.In z) (hp:PSch s) (hsh:w.ShapedOpen Tryz.prog) (rp:RightQ x (colT s) p (w.heap.size+1)) (rr:RightQ x (colT s) r (w.heap.size+1)) :
  Calls Tryz.prog 13 #[.agg #[.slice s.th.ao s.tabs.length s.th.cap],.agg #[.int .i64 (p.vars:Nat),.slice p.lh.ao p.lits.length p.lh.cap,.slice p.head.h.ao p.head.l.length p.head.h.cap],.agg #[.int .i64 (r.vars:Nat),.slice r.lh.ao r.lits.length r.lh.cap,.slice r.head.h.ao r.head.l.length r.head.h.cap]] x (ContPost p r x):=contains_any s _ p r _ _ x (h.fine hs hp hsh rp) (h.fine hs hp hsh rr) rp rr
theorem rows_few {X:Ins} (hf:FitI (colT s) X 3) (hl:p.lits.length≤6) : (p.cj.rows X.D nulV).length≤1000:=by
 have h:=evalL_len (hd:=headL nulV p.cj.head) hf.D_len p.cj.lits (fun _=>none)
 have h2:p.cj.lits.length≤6:=by rw [show p.cj.lits.length=p.lits.length from List.length_map _];exact hl
 have h3:3 ^ p.cj.lits.length≤3 ^ 6:=Nat.pow_le_pow_right (by decide) h2
 exact Nat.le_trans h (Nat.le_trans h3 (by decide))
theorem lc_eval (h:LC w L s w2 qb a q x) (hs: ∀z,w2.grownBy z (some w.heap.size)→s.In z) (hp:PSch s) (hsh:w.ShapedOpen Tryz.prog) (rp:RightQ x (colT s) p (w.heap.size+1)) {X:Ins} (hx:X.In x) (hf:FitI (colT s) X 3) (hl:p.lits.length≤6) :
  Calls Tryz.prog 19 #[.agg #[.slice s.th.ao s.tabs.length s.th.cap],.agg #[.slice X.h.ao X.l.length X.h.cap],.agg #[.int .i64 (p.vars:Nat),.slice p.lh.ao p.lits.length p.lh.cap,.slice p.head.h.ao p.head.l.length p.head.h.cap]] x (EvalPost p X x):=
 eval_any s p X _ 3 x (h.fine hs hp hsh rp) rp (hs x h.gr) hp hx hf (by decide) (ShX hsh h.bel) (rows_few hf hl)
theorem RightQ.cov {T:List (List Int)} {B:Nat} (h:RightQ x T q B) :Cov q.cj:=by
 obtain⟨τ,h1⟩:=h.ri;exact h1.cov
def Srt (r:RL) :Prop:=r.rows.Pairwise (fun a b=>¬cmpR b a<0)
structure IB (g:Nat) (X:Ins) (x:World) :Prop where
 box:Box x g #[.slice X.h.ao X.l.length X.h.cap] 46
 ins:X.In x
theorem IB.below {g:Nat} {X:Ins} (h:IB g X x) (hb:Below x.heap.size x y) :IB g X y:=⟨h.box.below hb,h.ins.mono hb⟩
end
end Go.Proofs.YtiijaaohphokcaaGreatDoor
/- ref01.Compare, ref01.CompareRows: the order of rows. -/
namespace Go.Proofs.YtiijaaohphokcaaGreatDoor
open Go.RowKit
theorem less_irr (l:List UInt8) :Op.bytesLess l l=false:=by rw [bless_eq];exact decide_eq_false (List.lt_irrefl l)
theorem less_tri (a b:List UInt8) (h1:Op.bytesLess a b=false) (h2:Op.bytesLess b a=false) :a=b:=by
 rw [bless_eq]at h1 h2;exact(Std.lt_trichotomy a b).elim (fun h=>absurd h (of_decide_eq_false h1)) (fun h=>h.elim id (fun h=>absurd h (of_decide_eq_false h2)))
theorem rcmp_any (a b:V) (w:World) :Calls Tryz.prog 145 #[.agg #[.int .i64 a.kind,.int .i64 a.num,.string a.text],.agg #[.int .i64 b.kind,.int .i64 b.num,.string b.text]] w fun e w'=>e = .returned (.int .i64 (cmpV a b))∧Below w.heap.size w w':=by
 have hr:cmpV a b=if a.kind<b.kind then -1 else if b.kind<a.kind then 1 else if a.num<b.num then -1 else if b.num<a.num then 1 else if Op.bytesLess a.text.toList b.text.toList=true then -1 else if Op.bytesLess b.text.toList a.text.toList=true then 1 else 0:=by
  unfold cmpV cmpI cmpS
  by_cases h1:a.kind<b.kind
  ·simp [h1]
  by_cases h2:b.kind<a.kind
  ·simp [h1,h2]
  by_cases h3:a.num<b.num
  ·simp [h1,h2,h3]
  by_cases h4:b.num<a.num
  ·simp [h1,h2,h3,h4]
  by_cases h5:Op.bytesLess a.text.toList b.text.toList=true
  ·simp [h1,h2,h3,h4,h5]
  by_cases h6:Op.bytesLess b.text.toList a.text.toList=true
  ·have: ¬(a.text.toList == b.text.toList) =true:=fun he=>by rw [eq_of_beq he,less_irr]at h6;cases h6
   rw [if_neg (by simp [h1,h2]),if_neg (by simp [h3,h4]),if_neg h5,if_neg this,if_neg h1,if_neg h2,if_neg h3,if_neg h4,if_neg h5,if_pos h6]
  ·have: (a.text.toList == b.text.toList) =true:=beq_iff_eq.2 (less_tri _ _ (by simpa using h5) (by simpa using h6))
   rw [if_neg (by simp [h1,h2]),if_neg (by simp [h3,h4]),if_neg h5,if_pos this,if_neg h1,if_neg h2,if_neg h3,if_neg h4,if_neg h5,if_neg h6]
 rw [hr];obtain⟨ak,an,av⟩:=a;obtain⟨bk,bn,bv⟩:=b
 dsimp only
 clear hr;by_cases h1:ak<bk
 ·rw [if_pos h1]
  go_enter Tryz.func145,Tryz.ntmps145;go_wp2;go_ret
  exact⟨rfl,belAA _ _⟩
 rw [if_neg h1];by_cases h2:bk<ak
 ·rw [if_pos h2]
  go_enter Tryz.func145,Tryz.ntmps145;go_wp2;go_ret
  exact⟨rfl,belAA _ _⟩
 rw [if_neg h2];by_cases h3:an<bn
 ·rw [if_pos h3]
  go_enter Tryz.func145,Tryz.ntmps145;go_wp2;go_ret
  exact⟨rfl,belAA _ _⟩
 rw [if_neg h3];by_cases h4:bn<an
 ·rw [if_pos h4]
  go_enter Tryz.func145,Tryz.ntmps145;go_wp2;go_ret
  exact⟨rfl,belAA _ _⟩
 rw [if_neg h4];by_cases h5:Op.bytesLess av.toList bv.toList=true
 ·rw [if_pos h5]
  go_enter Tryz.func145,Tryz.ntmps145;go_wp2;go_ret
  exact⟨rfl,belAA _ _⟩
 rw [if_neg h5];have g5:Op.bytesLess av.toList bv.toList=false:=by simpa using h5
 clear h5;by_cases h6:Op.bytesLess bv.toList av.toList=true
 ·rw [if_pos h6]
  have g7: (av.toList == bv.toList) =false:=beq_eq_false_iff_ne.2 (fun he=>by rw [he,less_irr]at h6;cases h6)
  clear h6
  go_enter Tryz.func145,Tryz.ntmps145;go_wp2;go_ret
  exact⟨rfl,belAA _ _⟩
 rw [if_neg h6];have g7: (av.toList == bv.toList) =true:=beq_iff_eq.2 (less_tri _ _ g5 (by simpa using h6))
 clear h6
 go_enter Tryz.func145,Tryz.ntmps145;go_wp2;go_ret
 exact⟨rfl,belAA _ _⟩
theorem rcrows_any (a b:VL) (w:World) (ha:a.In w) (hb:b.In w) :Calls Tryz.prog 99 #[.slice a.h.ao a.l.length a.h.cap,.slice b.h.ao b.l.length b.h.cap] w fun e w'=>e = .returned (.int .i64 (cmpR a.l b.l))∧Below w.heap.size w w':=by
 have han:=ha.1.len;have hbn:=hb.1.len;have HA:=ai ha;have HB:=ai hb;clear ha hb
 go_enter Tryz.func99,Tryz.ntmps99;go_wp2;go_loopw [5] (fun i wr=>∃k:Nat,k≤a.l.length∧k≤b.l.length∧i = .int .i64 k∧Hid (cmpR a.l b.l=cmpR (a.l.drop k) (b.l.drop k))∧Hid (Below w.heap.size w wr)) (fun i _=>a.l.length - (intOf i).toNat)
 case atStart=>exact⟨0,Nat.zero_le _,Nat.zero_le _,rfl,ai rfl,ai (Below.refl _ _)⟩
 case round=>
  obtain⟨k,hk,hkb,rfl,HC,HG⟩:=hrel;by_cases hlt:k<a.l.length
  ·have hlti: (k:Int) <a.l.length:=by omega
   by_cases hlb:k<b.l.length
   ·have hnb: (k:Int) <b.l.length:=by omega
    have hra:=HA.o.1.mono HG.o;have hixa:=hra.ix hlt Tryz.underlying96 szv3;obtain⟨c0,c1,c2⟩:=val_at hra hlt;have hrb:=HB.o.1.mono HG.o;have hixb:=hrb.ix hlb Tryz.underlying96 szv3;obtain⟨d0,d1,d2⟩:=val_at hrb hlb;have HST:=ai (HC.o.trans (cmpR_step hlt hlb));obtain⟨x,hx⟩ : ∃x,a.l[k] =x:=⟨_,rfl⟩;obtain⟨y,hy⟩ : ∃y,b.l[k] =y:=⟨_,rfl⟩;rw [hx]at c0 c1 c2 HST;rw [hy]at d0 d1 d2 HST;have HV:=ai (fun W=>rcmp_any x y W)
    obtain⟨c,hc⟩ : ∃c,cmpV x y=c:=⟨_,rfl⟩;rw [hc]at HV HST;obtain⟨xk,xn,xt⟩:=x;obtain⟨yk,yn,yt⟩:=y
    dsimp only at c0 c1 c2 d0 d1 d2 HV
    clear hc hx hy hra hrb HC;generalize a.h.o+k*3=pa at *;generalize b.h.o+k*3=pb at *;have x0:=hy_of c0;have x1:=hy_of c1;have x2:=hy_of c2;have e0:=hy_of d0;have e1:=hy_of d1;have e2:=hy_of d2;clear c0 c1 c2 d0 d1 d2;go_wp2
    go_region_held3 (fun w'=>Below wr.heap.size wr w') ((first|exact(Below.refl _ _).drew|exact bT (by assumption) (by assumption))) (first
     | (go_at_call 145;refine(HV.o _).mono ?_;rintro e z ⟨rfl,hz⟩))
    have HZ:=ai (bT HG.o (show Below wr.heap.size wr z by assumption))
    clear hz x0 x1 x2 e0 e1 e2;by_cases h0:c=0
    ·have hcb: (c != 0) =false:=by rw [h0];rfl
     have HN:=ai (show cmpR a.l b.l=cmpR (a.l.drop (k+1)) (b.l.drop (k+1))from by rw [HST.o,h0];exact if_neg (fun h=>h rfl))
     clear h0;go_wp2;go_roundw
     case rel=>exact⟨k+1,by omega,by omega,by go_num,HN,HZ⟩
     case measure=>simp [intOf];omega
    ·have hcb: (c != 0) =true:=bne_iff_ne.2 h0
     have HN:=ai (show cmpR a.l b.l=c from by rw [HST.o];exact if_pos h0)
     clear h0;go_wp2;go_ret
     exact⟨by rw [HN.o];rfl,HZ.o⟩
   ·have hnb: ¬(k:Int) < (b.l.length:Int):=by omega
    have hab: ¬(a.l.length:Int) <b.l.length:=by omega
    have hba: (b.l.length:Int) <a.l.length:=by omega
    have HN:=ai (show cmpR a.l b.l=1 from by rw [HC.o,List.drop_eq_getElem_cons hlt,show b.l.drop k = []from List.drop_of_length_le (by omega)];rfl)
    go_wp2;go_ret
    exact⟨by rw [HN.o];rfl,HG.o⟩
  ·have hlti: ¬(k:Int) <a.l.length:=by omega
   have hka:k=a.l.length:=by omega
   by_cases hlb:k<b.l.length
   ·have hab: (a.l.length:Int) <b.l.length:=by omega
    have HN:=ai (show cmpR a.l b.l = -1 from by rw [HC.o,show a.l.drop k = []from List.drop_of_length_le (by omega),List.drop_eq_getElem_cons hlb];rfl)
    clear hka;go_wp2;go_ret
    exact⟨by rw [HN.o];rfl,HG.o⟩
   ·have hab: ¬(a.l.length:Int) <b.l.length:=by omega
    have hba: ¬(b.l.length:Int) <a.l.length:=by omega
    have HN:=ai (show cmpR a.l b.l=0 from by rw [HC.o,show a.l.drop k = []from List.drop_of_length_le (by omega),show b.l.drop k = []from List.drop_of_length_le (by omega)];rfl)
    clear hka;go_wp2;go_ret
    exact⟨by rw [HN.o];rfl,HG.o⟩
end Go.Proofs.YtiijaaohphokcaaGreatDoor

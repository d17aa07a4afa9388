/- AlgebraMade: for every list and two numbers the law returns true, and they read as they did. The package variables expression.operations and algebra.forms start as the program's text lays them (the card ties that to the text). No other condition. -/
import Derived.Test.YtogalchclmmfgaaDoorCards
import Derived.Test.YtogalchclmmfgaaDoorTie
import Derived.Test.YtogalchclmmfgaaDoorP43
import Derived.Test.YtogalchclmmfgaaDoorP11
import Derived.Test.YtogalchclmmfgaaDoorP16
import Derived.Test.YtogalchclmmfgaaDoorP44
import Derived.Test.YtogalchclmmfgaaDoorP48
import Derived.WalkKit
import Derived.ProofKit
import Derived.OpenShut
import Derived.ShutString
import Derived.ChangeOld
import Derived.Deep.DeepHandedRow
set_option maxRecDepth 100000
set_option maxHeartbeats 16000000
namespace Go.Proofs.YtogalchclmmfgaaDoor.algebraMade
open Go.ChangeShapes Go.WideShapes Go.ChangeAt Go.RowKit
theorem own:ownKnob Tryd.prog.godebug=none:=by kernel_rfl
theorem laidOut:laidOutB Tryd.prog=true:=by kernel_rfl
def flatD:Nat→DataW Unit→List Value
 | n+1,.agg l=>l.flatMap (flatD n)
 | _+1,.lit (.string s)=> [.string ⟨s.toArray⟩]
 | _+1,.lit (.int k n)=> [.int k n]
 | _,_=> []
noncomputable def laidWorld (os:Os) :World:=
 let w0:=World.holding Tryd.prog os ⟨#[],#[],[]⟩
 let put (h:Array Obj) (g:Nat) (cs:Array Value) :Array Obj:=h.modify g fun
  | .cells _ t frozen=>.cells cs t frozen
  | o=>o
 { w0 with heap:=put (put w0.heap 0 (flatD 8 Rows.laid_querylab_algebra_forms).toArray) 2 (flatD 8 Rows.laid_querylab_expression_operations).toArray }
theorem laid_met (os:Os) :laidMet Tryd.prog Rows.algebraMadeRow.laid ((laidWorld os).forCall (fun _ _=>0) ⟨#[],#[.slice none 0 0,.int .i64 0,.int .i64 0],[]⟩).memory:=
 laidMet_of_run' 8 (by kernel_rfl) (by kernel_rfl)
theorem reads (os:Os) {H:Type} (enc:TypeId×Value→H) : ∃places,DataW.whole enc Tryd.prog ((laidWorld os).forCall (fun _ _=>0) ⟨#[],#[.slice none 0 0,.int .i64 0,.int .i64 0],[]⟩).memory Tryd.f5.params.toList Rows.algebraMadeSpec.vars false (#[Value.slice none 0 0,Value.int .i64 0,Value.int .i64 0] :Array Value).toList 8=some ([.nil,.lit (.int .i64 0),.lit (.int .i64 0)],[],places):=
 ⟨[],by kernel_rfl⟩
theorem contract (H:Type) (enc:TypeId×Value→H) (W:World) (base:Nat) (args:Array Value) (ds gs:List (DataW H)) (before:List MemPlace)
  (hval: ∀(j:Nat) t v,Tryd.f5.params[j]? = some t→args[j]? = some v→Value.okWide Tryd.prog W .any base t v)
  (hW:DataW.Whole enc Tryd.prog Tryd.f5.params.toList Rows.algebraMadeSpec.vars false W args.toList ds gs before) (hL:laidMetH Tryd.prog Rows.algebraMadeRow.laid W) (hsh:W.ShapedOpen Tryd.prog) :
  Calls Tryd.prog 5 args W fun e W'=>∃v,e = .returned v∧Rows.algebraMadeSpec.post enc Tryd.prog Tryd.f5 false true false false W args v W':=by
 have hW':=hW;obtain⟨p,q,hA0,hV,rfl,hfz,hnd⟩:=hW;have hA:DataW.TrodAll enc Tryd.prog W 0 (fun _=>true) true Tryd.f5.params.toList args.toList ds p:=hA0
 rw [Tryd.params5]at hA hval;obtain⟨v0,vs0,d0,ds0,p0,q0,hargs,rfl,rfl,h0,r0⟩:=trodAll_cons hA;obtain⟨v1,vs1,d1,ds1,p1,q1,rfl,rfl,rfl,h1,r1⟩:=trodAll_cons r0;obtain⟨v2,vs2,d2,ds2,p2,q2,rfl,rfl,rfl,h2,r2⟩:=trodAll_cons r1;obtain⟨rfl,rfl,rfl⟩:=trodAll_nil r2;obtain rfl:args = #[v0,v1,v2]:=by cases args;simp_all
 obtain⟨rfl,rfl⟩:=trodVars_none hV;have k0:=h0;have lt0: ∀x∈p0,x.block<W.heap.size:=by obtain⟨m,hm⟩:=k0;exact DataW.trod_lt m _ _ _ hm
 obtain⟨ao0,n0,cp0,rfl⟩:=okWide_slice Tryd.underlying22 (hval 0 22 v0 rfl rfl);obtain⟨a0,e0,w0⟩ : ∃a:IL,[Value.slice ao0 n0 cp0] =a.cells∧a.In W:=by obtain⟨m,hm⟩:=k0;exact open_il hm
 injection e0 with e0 _;injection e0 with x0 y0 z0;subst x0 y0 z0;have k1:=h1;have lt1: ∀x∈p1,x.block<W.heap.size:=by obtain⟨m,hm⟩:=k1;exact DataW.trod_lt m _ _ _ hm
 obtain⟨a1,rfl,_,_,w1⟩:=open_int Tryd.underlying3 (hval 1 3 v1 rfl rfl) h1;have k2:=h2;have lt2: ∀x∈p2,x.block<W.heap.size:=by obtain⟨m,hm⟩:=k2;exact DataW.trod_lt m _ _ _ hm
 obtain⟨a2,rfl,_,_,w2⟩:=open_int Tryd.underlying3 (hval 2 3 v2 rfl rfl) h2;have b2:int64 a2:=by
  simp [Lit.wf,IntKind.min,IntKind.max,IntKind.signed,IntKind.bits]at w2;exact⟨by omega,by omega⟩
 clear hA0;have hr:Lib.VarReads Tryd.prog W "querylab/expression.operations" Rows.laid_querylab_expression_operations:=Lib.laidMet.reads (l:=Rows.algebraMadeRow.laid) hL (by simp [Rows.algebraMadeRow])
 have hr2:Lib.VarReads Tryd.prog W "querylab/algebra.forms" Rows.laid_querylab_algebra_forms:=Lib.laidMet.reads (l:=Rows.algebraMadeRow.laid) hL (by simp [Rows.algebraMadeRow])
 refine(made_walk (ai (schema_of (ai expr_any3))) (ai (qry_four (ai expr_two) (ai expr_any3))) a0 a1 a2 W w0 b2 (forms_of_reads hr2) (ops_of_reads hr) hsh).mono fun e W' ⟨he,bel⟩=> ?_
 subst he;exact⟨_,rfl,_,_,_,[],_,[],hW',trodAll_mk1 (shut_bool Tryd.underlying4 _),(trodAll_cons_mk (Below.trod laidOut (by kernel_rfl) (of_decide_eq_true (by kernel_rfl)) k0 bel lt0) (trodAll_cons_mk (Below.trod laidOut (by kernel_rfl) (of_decide_eq_true (by kernel_rfl)) k1 bel lt1) (trodAll_cons_mk (Below.trod laidOut (by kernel_rfl) (of_decide_eq_true (by kernel_rfl)) k2 bel lt2) trodAll_mk0))),rfl,bel.frame _,fun h=>by cases h⟩
theorem lifted (os:Os) (started:os.Started) (H:Type) (enc:TypeId×Value→H) (F:Stop.Interp) :
  ReturnsInHanded {} Tryd.checked os 5 .any ((OpenSpec.ofChange Rows.algebraMadeSpec).preRow enc Tryd.prog Tryd.f5 Rows.algebraMadeRow.domain false Rows.algebraMadeRow.laid) (((OpenSpec.ofChange Rows.algebraMadeSpec).at F).post enc Tryd.prog Tryd.f5 false true false false):=by
 obtain⟨places,hx⟩:=reads os enc;refine returnsInHanded_of_row (C:=Tryd.checked) (s:=OpenSpec.ofChange Rows.algebraMadeSpec) own started (by kernel_rfl) Tryd.func5
  (witness_row_at (enc:=enc) (C:=Tryd.checked) false (laidWorld os) #[.slice none 0 0,.int .i64 0,.int .i64 0] rfl (by kernel_rfl) (by kernel_rfl) (by kernel_rfl)
   (OpenSpec.preRow_of_cond 8 hx (by kernel_rfl) (fun k hk=>by cases hk) (by kernel_rfl) (laid_met os))) ?_
 intro W base args ds gs before hval hW _ _ _ hL hsh _;exact contract H enc W base args ds gs before hval hW hL hsh
theorem said:Rows.AlgebraMadeSaid:=
 OpenClaim.holds_of_cond 5 Tryd.f5 rfl rfl rfl rfl rfl rfl rfl ⟨rfl,rfl,rfl,rfl,rfl⟩ rfl rfl rfl rfl rfl (by kernel_rfl) Tryd.func5 (by kernel_rfl)
  (of_decide_eq_true (by kernel_rfl)) (by unfold Func.isWrapper;first| (rw [if_pos (by decide +kernel)];kernel_rfl) | (rw [if_neg (by decide +kernel)];exact⟨rfl,rfl⟩))
  (fun os started H enc _ F=>by rw [OpenClaim.pre_eq_preRow];exact lifted os started H enc F)
theorem plain (f:FuncId) (fn:Func) (hf:Tryd.pinned.checked.prog.funcNamed "querylab/querylablaw04.AlgebraMade" = some f) (hfn:Tryd.pinned.checked.prog.funcs[f]? = some fn) :
  false=Tryd.pinned.checked.prog.looks []∧∀(j:Nat) t,fn.params[j]? = some t→Tryd.pinned.checked.prog.wantsStandIn t=false:=by
 obtain rfl:f=5:=Option.some.inj ((show Tryd.prog.funcNamed "querylab/querylablaw04.AlgebraMade" = some 5 by kernel_rfl).symm.trans hf) |>.symm
 obtain rfl:fn=Tryd.f5:=(Option.some.inj (Tryd.func5.symm.trans hfn)).symm;refine⟨by kernel_rfl,fun j t ht=> ?_⟩
 rw [Tryd.params5]at ht;have hm:t=22∨t=3:=by have:=Array.mem_of_getElem? ht;simp at this;omega
 rcases hm with rfl|rfl
 ·exact(show Tryd.prog.wantsStandIn 22=false by kernel_rfl)
 ·exact(show Tryd.prog.wantsStandIn 3=false by kernel_rfl)
theorem holds:Rows.AlgebraMadeCardSaid:=
 Claim7.holds_tied_plain_at .later [] _ _ _ _ said (fun _ h=>by cases h) (by kernel_rfl) (fun _ h=>by cases h) algebraMade_row_tie rfl ⟨rfl,rfl⟩ (by kernel_rfl) rfl plain (by kernel_rfl)
end Go.Proofs.YtogalchclmmfgaaDoor.algebraMade

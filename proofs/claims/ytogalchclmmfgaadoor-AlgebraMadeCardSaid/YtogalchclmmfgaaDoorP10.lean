/- A part of the proof of AlgebraMade. -/
import Derived.Test.YtogalchclmmfgaaDoorP09
import Derived.Test.YtogalchclmmfgaaDoorP05
set_option maxRecDepth 100000
set_option maxHeartbeats 16000000
namespace Go.Proofs.YtogalchclmmfgaaDoor
open Go.RowKit
def Hd.ob (h:Hd) :Option Nat:=h.ao.map (·.block)
theorem Hd.ob_eq (h:Hd) (n c:Nat) : (Value.slice h.ao n c).ownBlock=h.ob:=by
 obtain⟨ao,cap⟩:=h
 cases ao<;>rfl
theorem own_ob {z:World} {B n size:Nat} {e:TypeId} {h:Hd} {xs:List Value} (ho:z.ownsRow B e size (.slice h.ao n h.cap) n xs) {g:Nat} (hg:h.ob=some g) :
  B≤g∧g<z.heap.size∧∃cur,z.heap[g]? = some (.cells cur e (0,0)):=by
 rcases ho.2 with⟨h1,-⟩ | ⟨g',cap',cur,h1,hb,hh,-⟩
 ·injection h1 with h2
  simp [Hd.ob,h2]at hg
 ·injection h1 with h2
  have:g'=g:=by simpa [Hd.ob,h2]using hg
  subst this;exact⟨hb,(Array.getElem?_eq_some_iff.1 hh).1,cur,hh⟩
theorem own_ob_ne {z:World} {B B' n n' size size':Nat} {e e':TypeId} {h h':Hd} {xs xs':List Value} (ho:z.ownsRow B e size (.slice h.ao n h.cap) n xs) (ho':z.ownsRow B' e' size' (.slice h'.ao n' h'.cap) n' xs') (hne:e≠e') {g:Nat} (hg:h'.ob=some g) :h.ob≠some g:=by
 intro hg';obtain⟨_,_,c1,h1⟩:=own_ob ho hg';obtain⟨_,_,c2,h2⟩:=own_ob ho' hg;rw [h1]at h2;injection h2 with h2;injection h2 with _ h2;exact hne h2
theorem own_box_ne {z:World} {B n size g:Nat} {e T:TypeId} {h:Hd} {xs:List Value} {cs:Array Value} (ho:z.ownsRow B e size (.slice h.ao n h.cap) n xs) (hb:Box z g cs T) (hne:e≠T) :h.ob≠some g:=by
 intro hg';obtain⟨_,_,c1,h1⟩:=own_ob ho hg'
 unfold Box at hb
 rw [h1]at hb;injection hb with h2;injection h2 with _ h2;exact hne h2
theorem own_keep {z z':World} {B n size:Nat} {e:TypeId} {h:Hd} {xs:List Value} {r:Option Nat} (ho:z.ownsRow B e size (.slice h.ao n h.cap) n xs) (hg:z.grownBy z' r) (hne: ∀g,r=some g→h.ob≠some g) :z'.ownsRow B e size (.slice h.ao n h.cap) n xs:=by
 refine ho.kept hg ?_
 rw [Hd.ob_eq]
 cases r with
 | none=>
  cases hh:h.ob with
  | none=>exact .inl rfl
  | some g=>exact .inr (by simp)
 | some g=>exact .inr (hne g rfl)
def One (z:World) (B:Nat) (x:IL) :Prop:=∃g n,x= ⟨⟨some ⟨g,0,none⟩,1⟩,[n]⟩∧Box z g #[.int .i64 n] 3∧int64 n∧B≤g
theorem One.keep {z z':World} {B:Nat} {x:IL} {r:Option Nat} (h:One z B x) (hg:z.grownBy z' r) (hne: ∀g,r=some g→x.h.b≠g) :One z' B x:=by
 obtain⟨g,n,rfl,hb,hn,hB⟩:=h;exact⟨g,n,rfl,hb.grown hg (fun e=>hne g e.symm rfl),hn,hB⟩
theorem One.inn {z:World} {B:Nat} {x:IL} (h:One z B x) :x.In z:=by
 obtain⟨g,n,rfl,hb,hn,hB⟩:=h;exact box_il hb hn
theorem One.ge {z:World} {B:Nat} {x:IL} (h:One z B x) :B≤x.h.b:=by
 obtain⟨g,n,rfl,hb,hn,hB⟩:=h;exact hB
theorem One.lt {z:World} {B:Nat} {x:IL} (h:One z B x) :x.h.b<z.heap.size:=by
 obtain⟨g,n,rfl,hb,hn,hB⟩:=h;exact hb.lt
theorem One.ne {z:World} {B g:Nat} {x:IL} {cs:Array Value} {T:TypeId} (h:One z B x) (hb:Box z g cs T) (hT:3≠T) :x.h.b≠g:=by
 obtain⟨g',n,rfl,hb',hn,hB⟩:=h;exact hb'.ne hb hT
theorem One.neo {z:World} {B B' n size g:Nat} {e:TypeId} {h:Hd} {xs:List Value} {x:IL} (hx:One z B x) (ho:z.ownsRow B' e size (.slice h.ao n h.cap) n xs) (hT:e≠3) (hg:h.ob=some g) :x.h.b≠g:=by
 obtain⟨g',n,rfl,hb',hn,hB⟩:=hx;intro he;have:g'=g:=he;subst this;exact own_box_ne ho hb' hT hg
theorem One.base {z:World} {B B':Nat} {x:IL} (h:One z B x) (hb:B'≤B) :One z B' x:=by
 obtain⟨g,n,rfl,h1,hn,hB⟩:=h;exact⟨g,n,rfl,h1,hn,Nat.le_trans hb hB⟩
theorem base_own {z:World} {B B' n size:Nat} {e:TypeId} {v:Value} {xs:List Value} (ho:z.ownsRow B e size v n xs) (hb:B'≤B) :z.ownsRow B' e size v n xs:=by
 refine⟨ho.1,?_⟩
 rcases ho.2 with hn| ⟨g,cap,cur,rfl,hB,rest⟩
 ·exact .inl hn
 ·exact .inr ⟨g,cap,cur,rfl,Nat.le_trans hb hB,rest⟩
structure TOff (g:Nat) (t:Tab) :Prop where
 c:t.ch.ob≠some g
 p:t.prim.h.b≠g
 u:t.uh.ob≠some g
 us: ∀x∈t.uniqs,x.h.b≠g
 f:t.fh.ob≠some g
 fs: ∀x∈t.fors,x.cols.h.b≠g
 k:t.kh.ob≠some g
 ks: ∀x∈t.checks,x.Off g
structure TI (z:World) (B:Nat) (t:Tab) :Prop where
 oc:z.ownsRow B 41 3 (.slice t.ch.ao t.cols.length t.ch.cap) t.cols.length (t.cols.flatMap Col.cells)
 ou:z.ownsRow B 22 1 (.slice t.uh.ao t.uniqs.length t.uh.cap) t.uniqs.length (t.uniqs.flatMap IL.cells)
 of:z.ownsRow B 43 2 (.slice t.fh.ao t.fors.length t.fh.cap) t.fors.length (t.fors.flatMap Frn.cells)
 ok:z.ownsRow B 45 6 (.slice t.kh.ao t.checks.length t.kh.cap) t.checks.length (t.checks.flatMap Ex.cells)
 nm:t.name.size≤100
 cs: ∀c∈t.cols,c.name.size≤100∧int64 c.typ
 pr:One z B t.prim
 us: ∀u∈t.uniqs,One z B u
 fs: ∀f∈t.fors,One z B f.cols∧f.tab.size≤100
 ks: ∀k∈t.checks,k.In z∧k.Fresh B∧k.size≤21
theorem row_of_own {α:Type} {w:World} {base n:Nat} {e:TypeId} {size:Nat} {h:Hd} {cells:α→List Value} {xs:List α} (hs: ∀x,(cells x).length=size) (hpos:0<size)
  (ho:w.ownsRow base e size (.slice h.ao n h.cap) n (xs.flatMap cells)) :Row w size cells h xs:=by
 obtain⟨hd,hv,hr⟩:=own_row hs hpos ho;obtain⟨ao,cap⟩:=h;obtain⟨ao',cap'⟩:=hd;injection hv with h1 _ h2
 dsimp only at h1 h2
 subst h1 h2;exact hr
theorem TI.inn {z:World} {B:Nat} {t:Tab} (h:TI z B t) :t.In z where
 nm:=Nat.le_trans h.nm (by unfold maxLen;omega)
 rc:=row_of_own (fun _=>rfl) (by decide) h.oc
 cs:=fun c hc=>⟨Nat.le_trans (h.cs c hc).1 (by unfold maxLen;omega),(h.cs c hc).2⟩
 rp:=h.pr.inn
 ru:=row_of_own (fun _=>rfl) (by decide) h.ou
 us:=fun u hu=>(h.us u hu).inn
 rf:=row_of_own (fun _=>rfl) (by decide) h.of
 fs:=fun f hf=>⟨(h.fs f hf).1.inn,Nat.le_trans (h.fs f hf).2 (by unfold maxLen;omega)⟩
 rk:=row_of_own (fun _=>rfl) (by decide) h.ok
 ks:=fun k hk=>(h.ks k hk).1
theorem TI.off {z:World} {B g:Nat} {t:Tab} (h:TI z B t) (hg:g<B∨z.heap.size≤g) :TOff g t where
 c:=fun e=>by have:=own_ob h.oc e;omega
 p:=by have:=h.pr.ge;have:=h.pr.lt;omega
 u:=fun e=>by have:=own_ob h.ou e;omega
 us:=fun u hu=>by have:=(h.us u hu).ge;have:=(h.us u hu).lt;omega
 f:=fun e=>by have:=own_ob h.of e;omega
 fs:=fun f hf=>by have:=(h.fs f hf).1.ge;have:=(h.fs f hf).1.lt;omega
 k:=fun e=>by have:=own_ob h.ok e;omega
 ks:=fun k hk=>by
  rcases hg with hg|hg
  ·exact(h.ks k hk).2.1.off hg
  ·exact(h.ks k hk).1.off hg
theorem TI.off_box {z:World} {B g:Nat} {t:Tab} {cs:Array Value} (h:TI z B t) (hb:Box z g cs 39) (hk: ∀x∈t.checks,x.Off g) :TOff g t where
 c:=own_box_ne h.oc hb (by decide)
 p:=h.pr.ne hb (by decide)
 u:=own_box_ne h.ou hb (by decide)
 us:=fun u hu=>(h.us u hu).ne hb (by decide)
 f:=own_box_ne h.of hb (by decide)
 fs:=fun f hf=>(h.fs f hf).1.ne hb (by decide)
 k:=own_box_ne h.ok hb (by decide)
 ks:=hk
theorem TI.keep {z z':World} {B:Nat} {t:Tab} {r:Option Nat} (h:TI z B t) (hg:z.grownBy z' r) (ho: ∀g,r=some g→TOff g t) :TI z' B t where
 oc:=own_keep h.oc hg fun g e=>(ho g e).c
 ou:=own_keep h.ou hg fun g e=>(ho g e).u
 of:=own_keep h.of hg fun g e=>(ho g e).f
 ok:=own_keep h.ok hg fun g e=>(ho g e).k
 nm:=h.nm
 cs:=h.cs
 pr:=h.pr.keep hg fun g e=>(ho g e).p
 us:=fun u hu=>(h.us u hu).keep hg fun g e=>(ho g e).us u hu
 fs:=fun f hf=>⟨(h.fs f hf).1.keep hg fun g e=>(ho g e).fs f hf,(h.fs f hf).2⟩
 ks:=fun k hk=>⟨by
  cases r with
  | none=>exact(h.ks k hk).1.grownOff ((h.ks k hk).1.off (Nat.le_refl _)) (hg.but _)
  | some g=>exact(h.ks k hk).1.grownOff ((ho g rfl).ks k hk) hg,(h.ks k hk).2⟩
theorem TI.keepB {z z':World} {B b:Nat} {t:Tab} (h:TI z B t) (hg:z.grownBy z' (some b)) (hb:b<B) :TI z' B t:=h.keep hg fun g e=>h.off (by injection e with e;omega)
theorem TI.keepA {z:World} {B:Nat} {t:Tab} (h:TI z B t) (o:Obj) :TI (z.alloc o) B t:=h.keep (only_below (belA o) none) fun g e=>by cases e
theorem fm_snoc {α:Type} (cells:α→List Value) (xs:List α) (x:α) : (xs ++ [x]).flatMap cells=xs.flatMap cells ++ cells x:=by simp
theorem TI.col {z z':World} {B g cap:Nat} {t:Tab} {c:Col} (h:TI z B t)
  (ho:z'.ownsRow B 41 3 (.slice (some ⟨g,0,none⟩) (t.cols.length+1) cap) (t.cols.length+1) (t.cols.flatMap Col.cells ++ Col.cells c)) (hg:z.grownBy z' t.ch.ob)
  (hk: ∀x∈t.checks,∀g,t.ch.ob=some g→x.Off g) (hc:c.name.size≤100∧int64 c.typ) :TI z' B { t with ch:=⟨some ⟨g,0,none⟩,cap⟩,cols:=t.cols ++ [c] } where
 oc:=by
  show z'.ownsRow B _ 3 (.slice (some ⟨g,0,none⟩) (t.cols ++ [c]).length cap) (t.cols ++ [c]).length ((t.cols ++ [c]).flatMap Col.cells)
  rw [fm_snoc,List.length_append];exact ho
 ou:=own_keep h.ou hg fun g e=>own_ob_ne h.ou h.oc (by decide) e
 of:=own_keep h.of hg fun g e=>own_ob_ne h.of h.oc (by decide) e
 ok:=own_keep h.ok hg fun g e=>own_ob_ne h.ok h.oc (by decide) e
 nm:=h.nm
 cs:=fun x hx=>by
  rcases List.mem_append.1 hx with hx|hx
  ·exact h.cs x hx
  ·rw [List.mem_singleton.1 hx];exact hc
 pr:=h.pr.keep hg fun g e=>h.pr.neo h.oc (by decide) e
 us:=fun u hu=>(h.us u hu).keep hg fun g e=>(h.us u hu).neo h.oc (by decide) e
 fs:=fun f hf=>⟨(h.fs f hf).1.keep hg fun g e=>(h.fs f hf).1.neo h.oc (by decide) e,(h.fs f hf).2⟩
 ks:=fun k hkk=>⟨by
  cases hr:t.ch.ob with
  | none=>rw [hr]at hg;exact(h.ks k hkk).1.grownOff ((h.ks k hkk).1.off (Nat.le_refl _)) (hg.but _)
  | some g=>rw [hr]at hg;exact(h.ks k hkk).1.grownOff (hk k hkk g hr) hg,(h.ks k hkk).2⟩
theorem TI.unq {z z':World} {B g cap:Nat} {t:Tab} {c:IL} (h:TI z B t)
  (ho:z'.ownsRow B 22 1 (.slice (some ⟨g,0,none⟩) (t.uniqs.length+1) cap) (t.uniqs.length+1) (t.uniqs.flatMap IL.cells ++ IL.cells c)) (hg:z.grownBy z' t.uh.ob)
  (hk: ∀x∈t.checks,∀g,t.uh.ob=some g→x.Off g) (hc:One z B c) :TI z' B { t with uh:=⟨some ⟨g,0,none⟩,cap⟩,uniqs:=t.uniqs ++ [c] } where
 oc:=own_keep h.oc hg fun g e=>own_ob_ne h.oc h.ou (by decide) e
 ou:=by
  show z'.ownsRow B _ 1 (.slice (some ⟨g,0,none⟩) (t.uniqs ++ [c]).length cap) (t.uniqs ++ [c]).length ((t.uniqs ++ [c]).flatMap IL.cells)
  rw [fm_snoc,List.length_append];exact ho
 of:=own_keep h.of hg fun g e=>own_ob_ne h.of h.ou (by decide) e
 ok:=own_keep h.ok hg fun g e=>own_ob_ne h.ok h.ou (by decide) e
 nm:=h.nm
 cs:=h.cs
 pr:=h.pr.keep hg fun g e=>h.pr.neo h.ou (by decide) e
 us:=fun x hx=>by
  rcases List.mem_append.1 hx with hx|hx
  ·exact(h.us x hx).keep hg fun g e=>(h.us x hx).neo h.ou (by decide) e
  ·rw [List.mem_singleton.1 hx];exact hc.keep hg fun g e=>hc.neo h.ou (by decide) e
 fs:=fun f hf=>⟨(h.fs f hf).1.keep hg fun g e=>(h.fs f hf).1.neo h.ou (by decide) e,(h.fs f hf).2⟩
 ks:=fun k hkk=>⟨by
  cases hr:t.uh.ob with
  | none=>rw [hr]at hg;exact(h.ks k hkk).1.grownOff ((h.ks k hkk).1.off (Nat.le_refl _)) (hg.but _)
  | some g=>rw [hr]at hg;exact(h.ks k hkk).1.grownOff (hk k hkk g hr) hg,(h.ks k hkk).2⟩
theorem TI.frn {z z':World} {B g cap:Nat} {t:Tab} {c:Frn} (h:TI z B t)
  (ho:z'.ownsRow B 43 2 (.slice (some ⟨g,0,none⟩) (t.fors.length+1) cap) (t.fors.length+1) (t.fors.flatMap Frn.cells ++ Frn.cells c)) (hg:z.grownBy z' t.fh.ob)
  (hk: ∀x∈t.checks,∀g,t.fh.ob=some g→x.Off g) (hc:One z B c.cols∧c.tab.size≤100) :TI z' B { t with fh:=⟨some ⟨g,0,none⟩,cap⟩,fors:=t.fors ++ [c] } where
 oc:=own_keep h.oc hg fun g e=>own_ob_ne h.oc h.of (by decide) e
 ou:=own_keep h.ou hg fun g e=>own_ob_ne h.ou h.of (by decide) e
 of:=by
  show z'.ownsRow B _ 2 (.slice (some ⟨g,0,none⟩) (t.fors ++ [c]).length cap) (t.fors ++ [c]).length ((t.fors ++ [c]).flatMap Frn.cells)
  rw [fm_snoc,List.length_append];exact ho
 ok:=own_keep h.ok hg fun g e=>own_ob_ne h.ok h.of (by decide) e
 nm:=h.nm
 cs:=h.cs
 pr:=h.pr.keep hg fun g e=>h.pr.neo h.of (by decide) e
 us:=fun u hu=>(h.us u hu).keep hg fun g e=>(h.us u hu).neo h.of (by decide) e
 fs:=fun x hx=>by
  rcases List.mem_append.1 hx with hx|hx
  ·exact⟨(h.fs x hx).1.keep hg fun g e=>(h.fs x hx).1.neo h.of (by decide) e,(h.fs x hx).2⟩
  ·rw [List.mem_singleton.1 hx];exact⟨hc.1.keep hg fun g e=>hc.1.neo h.of (by decide) e,hc.2⟩
 ks:=fun k hkk=>⟨by
  cases hr:t.fh.ob with
  | none=>rw [hr]at hg;exact(h.ks k hkk).1.grownOff ((h.ks k hkk).1.off (Nat.le_refl _)) (hg.but _)
  | some g=>rw [hr]at hg;exact(h.ks k hkk).1.grownOff (hk k hkk g hr) hg,(h.ks k hkk).2⟩
theorem TI.chk {z z':World} {B g cap:Nat} {t:Tab} {c:Ex} (h:TI z B t)
  (ho:z'.ownsRow B 45 6 (.slice (some ⟨g,0,none⟩) (t.checks.length+1) cap) (t.checks.length+1) (t.checks.flatMap Ex.cells ++ Ex.cells c)) (hg:z.grownBy z' t.kh.ob)
  (hk: ∀x∈t.checks ++ [c],∀g,t.kh.ob=some g→x.Off g) (hc:c.In z∧c.Fresh B∧c.size≤21) :TI z' B { t with kh:=⟨some ⟨g,0,none⟩,cap⟩,checks:=t.checks ++ [c] } where
 oc:=own_keep h.oc hg fun g e=>own_ob_ne h.oc h.ok (by decide) e
 ou:=own_keep h.ou hg fun g e=>own_ob_ne h.ou h.ok (by decide) e
 of:=own_keep h.of hg fun g e=>own_ob_ne h.of h.ok (by decide) e
 ok:=by
  show z'.ownsRow B _ 6 (.slice (some ⟨g,0,none⟩) (t.checks ++ [c]).length cap) (t.checks ++ [c]).length ((t.checks ++ [c]).flatMap Ex.cells)
  rw [fm_snoc,List.length_append];exact ho
 nm:=h.nm
 cs:=h.cs
 pr:=h.pr.keep hg fun g e=>h.pr.neo h.ok (by decide) e
 us:=fun u hu=>(h.us u hu).keep hg fun g e=>(h.us u hu).neo h.ok (by decide) e
 fs:=fun f hf=>⟨(h.fs f hf).1.keep hg fun g e=>(h.fs f hf).1.neo h.ok (by decide) e,(h.fs f hf).2⟩
 ks:=fun k hkk=>by
  have hk':k.In z∧k.Fresh B∧k.size≤21:=by
   rcases List.mem_append.1 hkk with hx|hx
   ·exact h.ks k hx
   ·rw [List.mem_singleton.1 hx];exact hc
  refine⟨?_,hk'.2⟩
  cases hr:t.kh.ob with
  | none=>rw [hr]at hg;exact hk'.1.grownOff (hk'.1.off (Nat.le_refl _)) (hg.but _)
  | some g=>rw [hr]at hg;exact hk'.1.grownOff (hk k hkk g hr) hg
end Go.Proofs.YtogalchclmmfgaaDoor
namespace Go.Proofs.YtogalchclmmfgaaDoor
open Go.RowKit
theorem name_1 (w:World) (s:ByteArray) (hs:s.size≤100) :
  Calls Tryd.prog 18 #[.string s,.int .i64 1] w fun e w'=>e = .returned (.string (s ++ ⟨#[49]⟩))∧Below w.heap.size w w':=by
 have hcv: (convert 83 9 (.slice (some ⟨w.heap.size,0,none⟩) 1 1)).run Tryd.prog (w.alloc (.cells #[.int .u8 49] 5)) = .ok (.string ⟨#[49]⟩) (w.alloc (.cells #[.int .u8 49] 5)):=
  run_convert_bytes_back _ 83 9 5 ⟨w.heap.size,0,none⟩ 1 [49] rfl rfl rfl (fun j hj=>by
   have h0:j=0:=by simp at hj;omega
   subst h0;exact new_cells 0 _ rfl)
 go_enter Tryd.func18,Tryd.ntmps18;go_wp2;have hsz: (s ++ (⟨#[49]⟩ :ByteArray)).size≤1000:=by rw [ByteArray.size_append];show s.size+1≤1000;omega
 go_ret
 exact⟨rfl,belA _⟩
theorem name_2 (w:World) (s:ByteArray) (hs:s.size≤100) :
  Calls Tryd.prog 18 #[.string s,.int .i64 2] w fun e w'=>e = .returned (.string (s ++ ⟨#[50]⟩))∧Below w.heap.size w w':=by
 have hcv: (convert 83 9 (.slice (some ⟨w.heap.size,0,none⟩) 1 1)).run Tryd.prog (w.alloc (.cells #[.int .u8 50] 5)) = .ok (.string ⟨#[50]⟩) (w.alloc (.cells #[.int .u8 50] 5)):=
  run_convert_bytes_back _ 83 9 5 ⟨w.heap.size,0,none⟩ 1 [50] rfl rfl rfl (fun j hj=>by
   have h0:j=0:=by simp at hj;omega
   subst h0;exact new_cells 0 _ rfl)
 go_enter Tryd.func18,Tryd.ntmps18;go_wp2;have hsz: (s ++ (⟨#[50]⟩ :ByteArray)).size≤1000:=by rw [ByteArray.size_append];show s.size+1≤1000;omega
 go_ret
 exact⟨rfl,belA _⟩
def dig (n:Int) :ByteArray:=if n=0 then ⟨#[48]⟩ else if n=1 then ⟨#[49]⟩ else ⟨#[50]⟩
theorem small_name (w:World) (s:ByteArray) (hs:s.size≤10) (n:Int) (hn:0≤n∧n≤2) :
  Calls Tryd.prog 18 #[.string s,.int .i64 n] w fun e w'=>(∃r:ByteArray,(r.size≤100∧r=s ++ dig n)∧e = .returned (.string r))∧Below w.heap.size w w':=by
 have hc:n=0∨n=1∨n=2:=by omega
 have hsz: ∀c:UInt8,(s ++ (⟨#[c]⟩ :ByteArray)).size≤100:=fun c=>by rw [ByteArray.size_append];show s.size+1≤100;omega
 rcases hc with rfl|rfl|rfl
 ·exact(name_zero w s (by omega)).mono fun e w' ⟨h,hb⟩=>⟨⟨_,⟨hsz _,rfl⟩,h⟩,hb⟩
 ·exact(name_1 w s (by omega)).mono fun e w' ⟨h,hb⟩=>⟨⟨_,⟨hsz _,rfl⟩,h⟩,hb⟩
 ·exact(name_2 w s (by omega)).mono fun e w' ⟨h,hb⟩=>⟨⟨_,⟨hsz _,rfl⟩,h⟩,hb⟩
end Go.Proofs.YtogalchclmmfgaaDoor
namespace Go.Proofs.YtogalchclmmfgaaDoor
open Go.RowKit
theorem tzo {w w':World} {b a B:Nat} {L:IL} {r:Option Nat} (h:TapeIn w b L a) (hg:w.grownBy w' r) (hB:b<B∧(0<L.l.length→L.h.b<B)) (hr: ∀c,r=some c→B≤c) :TapeIn w' b L a:=by
 cases r with
 | none=>exact tz2 h (hg.but (some w.heap.size)) h.low (Nat.le_refl _)
 | some c=>exact tz2 h hg hB (hr c rfl)
theorem gbo {a b c:World} {r:Option Nat} {q:Option Nat} (h:a.grownBy b r) (k:b.grownBy c q) (hq: ∀g,q=some g→a.heap.size≤g) :a.grownBy c r:=h.andThen k (fun j e=>.inl (hq j e))
structure TB (nm:ByteArray) (V z:World) (b:Nat) (L:IL) (a B cx:Nat) (t:Tab) :Prop where
 gb:V.grownBy z (some b)
 le:V.heap.size≤B
 ll:b<V.heap.size∧(0<L.l.length→L.h.b<V.heap.size)
 tp:TapeIn z b L a
 ti:TI z B t
 bx:Box z cx #[.string t.name,.slice t.ch.ao t.cols.length t.ch.cap,.slice t.prim.h.ao t.prim.l.length t.prim.h.cap,.slice t.uh.ao t.uniqs.length t.uh.cap,.slice t.fh.ao t.fors.length t.fh.cap,.slice t.kh.ao t.checks.length t.kh.cap] 39
 cx:B≤cx
 nk:t.checks = []∧t.kh=nilHd
 na:t.name=nm
 ct: ∀c∈t.cols,isT c.typ=true
section
variable {nm:ByteArray} {V z z':World} {b a a' B cx g cap:Nat} {L:IL} {t:Tab}
theorem TB.next (h:TB nm V z b L a B cx t) (hg:z.grownBy z' (some b)) (ht:TapeIn z' b L a') :TB nm V z' b L a' B cx t:=
 ⟨h.gb.trans hg,h.le,h.ll,ht,h.ti.keepB hg (by have:=h.le;have:=h.ll;omega),h.bx.grown hg (by have:=h.le;have:=h.ll;have:=h.cx;simp;omega),h.cx,h.nk,h.na,h.ct⟩
theorem TB.below (h:TB nm V z b L a B cx t) (hb:Below z.heap.size z z') :TB nm V z' b L a B cx t:=h.next (only_below hb _) (h.tp.mono hb)
theorem TB.alloc (h:TB nm V z b L a B cx t) (o:Obj) :TB nm V (z.alloc o) b L a B cx t:=h.below (belA o)
theorem TB.sz (h:TB nm V z b L a B cx t) :B≤z.heap.size:=by have:=h.ti.pr.ge;have:=h.ti.pr.lt;omega
theorem TB.cell (h:TB nm V z b L a B cx t) {j:Nat} {v:Value} (hv: (t.cells)[j]? = some v) :z.cell? ⟨cx,j,none⟩ =some v:=h.bx.cell (by simpa using hv)
theorem TB.col {c:Col} (h:TB nm V z b L a B cx t)
  (ho:z'.ownsRow B 41 3 (.slice (some ⟨g,0,none⟩) (t.cols.length+1) cap) (t.cols.length+1) (t.cols.flatMap Col.cells ++ Col.cells c)) (hg:z.grownBy z' (Value.slice t.ch.ao t.cols.length t.ch.cap).ownBlock) (hc:c.name.size≤100∧isT c.typ=true) :
  TB nm V (z'.setCell ⟨cx,1,none⟩ (.slice (some ⟨g,0,none⟩) (t.cols.length+1) cap)) b L a B cx { t with ch:=⟨some ⟨g,0,none⟩,cap⟩,cols:=t.cols ++ [c] }:=by
 rw [Hd.ob_eq]at hg;have hge: ∀g,t.ch.ob=some g→B≤g:=fun g e=>(own_ob h.ti.oc e).1
 have hle:=h.le;have hll:=h.ll;have hcx:=h.cx;have hbx:=h.bx.grown hg (fun e=>own_box_ne h.ti.oc h.bx (by decide) e.symm)
 have hti:=h.ti.col ho hg (fun x hx=>by rw [h.nk.1]at hx;cases hx) ⟨hc.1,isT_64 hc.2⟩
 refine⟨gbo (gbo h.gb hg (fun g e=>Nat.le_trans hle (hge g e))) (gb_set _ _ _ _) (fun g e=>by injection e with e;omega),hle,hll,tzo (tzo h.tp hg hll (fun g e=>Nat.le_trans hle (hge g e))) (gb_set _ _ _ _) hll (fun g e=>by injection e with e;omega),?_,?_,hcx,h.nk,h.na,fun y hy=> ?_⟩
 ·exact hti.keep (gb_set _ _ _ _) (fun g e=>by injection e with e;subst e;exact hti.off_box hbx (fun x hx=>by rw [show x∈t.checks↔x∈([] :List Ex) by rw [h.nk.1]]at hx;cases hx))
 ·have:=hbx.set 1 (.slice (some ⟨g,0,none⟩) (t.cols.length+1) cap)
  show Box _ cx #[.string t.name,.slice (some ⟨g,0,none⟩) (t.cols ++ [c]).length cap,.slice t.prim.h.ao t.prim.l.length t.prim.h.cap,.slice t.uh.ao t.uniqs.length t.uh.cap,.slice t.fh.ao t.fors.length t.fh.cap,.slice t.kh.ao t.checks.length t.kh.cap] _
  rw [show(t.cols ++ [c]).length=t.cols.length+1 by simp]
  exact this
 ·rcases List.mem_append.1 hy with hy|hy
  ·exact h.ct y hy
  ·rw [List.mem_singleton.1 hy];exact hc.2
theorem TB.unq {c:IL} (h:TB nm V z b L a B cx t)
  (ho:z'.ownsRow B 22 1 (.slice (some ⟨g,0,none⟩) (t.uniqs.length+1) cap) (t.uniqs.length+1) (t.uniqs.flatMap IL.cells ++ IL.cells c)) (hg:z.grownBy z' (Value.slice t.uh.ao t.uniqs.length t.uh.cap).ownBlock) (hc:One z B c) :
  TB nm V (z'.setCell ⟨cx,3,none⟩ (.slice (some ⟨g,0,none⟩) (t.uniqs.length+1) cap)) b L a B cx { t with uh:=⟨some ⟨g,0,none⟩,cap⟩,uniqs:=t.uniqs ++ [c] }:=by
 rw [Hd.ob_eq]at hg;have hge: ∀g,t.uh.ob=some g→B≤g:=fun g e=>(own_ob h.ti.ou e).1
 have hle:=h.le;have hll:=h.ll;have hcx:=h.cx;have hbx:=h.bx.grown hg (fun e=>own_box_ne h.ti.ou h.bx (by decide) e.symm)
 have hti:=h.ti.unq ho hg (fun x hx=>by rw [h.nk.1]at hx;cases hx) hc
 refine⟨gbo (gbo h.gb hg (fun g e=>Nat.le_trans hle (hge g e))) (gb_set _ _ _ _) (fun g e=>by injection e with e;omega),hle,hll,tzo (tzo h.tp hg hll (fun g e=>Nat.le_trans hle (hge g e))) (gb_set _ _ _ _) hll (fun g e=>by injection e with e;omega),?_,?_,hcx,h.nk,h.na,h.ct⟩
 ·exact hti.keep (gb_set _ _ _ _) (fun g e=>by injection e with e;subst e;exact hti.off_box hbx (fun x hx=>by rw [show x∈t.checks↔x∈([] :List Ex) by rw [h.nk.1]]at hx;cases hx))
 ·have:=hbx.set 3 (.slice (some ⟨g,0,none⟩) (t.uniqs.length+1) cap)
  show Box _ cx #[.string t.name,.slice t.ch.ao t.cols.length t.ch.cap,.slice t.prim.h.ao t.prim.l.length t.prim.h.cap,.slice (some ⟨g,0,none⟩) (t.uniqs ++ [c]).length cap,.slice t.fh.ao t.fors.length t.fh.cap,.slice t.kh.ao t.checks.length t.kh.cap] _
  rw [show(t.uniqs ++ [c]).length=t.uniqs.length+1 by simp]
  exact this
theorem TB.frn {c:Frn} (h:TB nm V z b L a B cx t)
  (ho:z'.ownsRow B 43 2 (.slice (some ⟨g,0,none⟩) (t.fors.length+1) cap) (t.fors.length+1) (t.fors.flatMap Frn.cells ++ Frn.cells c)) (hg:z.grownBy z' (Value.slice t.fh.ao t.fors.length t.fh.cap).ownBlock) (hc:One z B c.cols∧c.tab.size≤100) :
  TB nm V (z'.setCell ⟨cx,4,none⟩ (.slice (some ⟨g,0,none⟩) (t.fors.length+1) cap)) b L a B cx { t with fh:=⟨some ⟨g,0,none⟩,cap⟩,fors:=t.fors ++ [c] }:=by
 rw [Hd.ob_eq]at hg;have hge: ∀g,t.fh.ob=some g→B≤g:=fun g e=>(own_ob h.ti.of e).1
 have hle:=h.le;have hll:=h.ll;have hcx:=h.cx;have hbx:=h.bx.grown hg (fun e=>own_box_ne h.ti.of h.bx (by decide) e.symm)
 have hti:=h.ti.frn ho hg (fun x hx=>by rw [h.nk.1]at hx;cases hx) hc
 refine⟨gbo (gbo h.gb hg (fun g e=>Nat.le_trans hle (hge g e))) (gb_set _ _ _ _) (fun g e=>by injection e with e;omega),hle,hll,tzo (tzo h.tp hg hll (fun g e=>Nat.le_trans hle (hge g e))) (gb_set _ _ _ _) hll (fun g e=>by injection e with e;omega),?_,?_,hcx,h.nk,h.na,h.ct⟩
 ·exact hti.keep (gb_set _ _ _ _) (fun g e=>by injection e with e;subst e;exact hti.off_box hbx (fun x hx=>by rw [show x∈t.checks↔x∈([] :List Ex) by rw [h.nk.1]]at hx;cases hx))
 ·have:=hbx.set 4 (.slice (some ⟨g,0,none⟩) (t.fors.length+1) cap)
  show Box _ cx #[.string t.name,.slice t.ch.ao t.cols.length t.ch.cap,.slice t.prim.h.ao t.prim.l.length t.prim.h.cap,.slice t.uh.ao t.uniqs.length t.uh.cap,.slice (some ⟨g,0,none⟩) (t.fors ++ [c]).length cap,.slice t.kh.ao t.checks.length t.kh.cap] _
  rw [show(t.fors ++ [c]).length=t.fors.length+1 by simp]
  exact this
end
theorem One.new (x:World) {B:Nat} {n:Int} (hB:B≤x.heap.size) (hn:int64 n) :One (x.alloc (.cells #[.int .i64 n] 3)) B ⟨⟨some ⟨x.heap.size,0,none⟩,1⟩,[n]⟩:=⟨_,_,rfl,Box.new x _ _,hn,hB⟩
theorem One.below {z z':World} {B:Nat} {x:IL} (h:One z B x) (hb:Below z.heap.size z z') :One z' B x:=h.keep (only_below hb none) (fun g e=>by cases e)
theorem One.keepB {z z':World} {B b:Nat} {x:IL} (h:One z B x) (hg:z.grownBy z' (some b)) (hb:b<B) :One z' B x:=h.keep hg (fun g e=>by have:=h.ge;injection e with e;omega)
def RowBlk (t:Tab) (g:Nat) :Prop:=t.ch.ob=some g∨t.uh.ob=some g∨t.fh.ob=some g∨t.kh.ob=some g
theorem TI.rowblk {z:World} {B g:Nat} {t:Tab} (h:TI z B t) (hg:RowBlk t g) :B≤g∧g<z.heap.size:=by
 rcases hg with hg|hg|hg|hg
 ·exact⟨(own_ob h.oc hg).1,(own_ob h.oc hg).2.1⟩
 ·exact⟨(own_ob h.ou hg).1,(own_ob h.ou hg).2.1⟩
 ·exact⟨(own_ob h.of hg).1,(own_ob h.of hg).2.1⟩
 ·exact⟨(own_ob h.ok hg).1,(own_ob h.ok hg).2.1⟩
def KD (t:Tab) :Prop:=∀e∈t.checks,∀g,RowBlk t g→e.Off g
structure TFin (t:Tab) :Prop where
 kd:KD t
 nu:t.uniqs = []→t.uh=nilHd
 nc:1≤t.cols.length∧t.cols.length≤8
 nl:t.uniqs.length≤2∧t.fors.length≤4∧t.checks.length≤2
structure TD (nm:ByteArray) (V z:World) (b:Nat) (L:IL) (a B cx:Nat) (t:Tab) :Prop where
 gb:V.grownBy z (some b)
 le:V.heap.size≤B
 tp:TapeIn z b L a
 ti:TI z B t
 bx:Box z cx #[.string t.name,.slice t.ch.ao t.cols.length t.ch.cap,.slice t.prim.h.ao t.prim.l.length t.prim.h.cap,.slice t.uh.ao t.uniqs.length t.uh.cap,.slice t.fh.ao t.fors.length t.fh.cap,.slice t.kh.ao t.checks.length t.kh.cap] 39
 fin:TFin t
 na:t.name=nm
 ct: ∀c∈t.cols,isT c.typ=true
theorem TB.done {nm:ByteArray} {V z:World} {b a B cx:Nat} {L:IL} {t:Tab} (h:TB nm V z b L a B cx t) (hu:t.uniqs = []→t.uh=nilHd) (hc:1≤t.cols.length∧t.cols.length≤8) (hl:t.uniqs.length≤2∧t.fors.length≤4) :TD nm V z b L a B cx t:=
 ⟨h.gb,h.le,h.tp,h.ti,h.bx,⟨fun e he=>(by rw [h.nk.1]at he;exact absurd he List.not_mem_nil),hu,hc,⟨hl.1,hl.2,(by rw [h.nk.1];decide)⟩⟩,h.na,h.ct⟩
theorem TB.chk {nm:ByteArray} {V z x z':World} {b a a' B cx g cap:Nat} {L:IL} {t:Tab} {e:Ex} {o:Obj} (h:TB nm V z b L a B cx t) (hx:z.grownBy x (some b)) (htx:TapeIn x b L a') (he:e.In x∧e.Fresh z.heap.size∧e.size≤21)
  (ho:z'.ownsRow B 45 6 (.slice (some ⟨g,0,none⟩) (t.checks.length+1) cap) (t.checks.length+1) (t.checks.flatMap Ex.cells ++ Ex.cells e)) (hg: (x.alloc o).grownBy z' (Value.slice t.kh.ao t.checks.length t.kh.cap).ownBlock) (hgg:g= (x.alloc o).heap.size)
  (hu:t.uniqs = []→t.uh=nilHd) (hc:1≤t.cols.length∧t.cols.length≤8) (hl:t.uniqs.length≤2∧t.fors.length≤4) :
  TD nm V (z'.setCell ⟨cx,5,none⟩ (.slice (some ⟨g,0,none⟩) (t.checks.length+1) cap)) b L a' B cx { t with kh:=⟨some ⟨g,0,none⟩,cap⟩,checks:=t.checks ++ [e] }:=by
 rw [Hd.ob_eq]at hg;have h1:=(h.next hx htx).alloc o;have hle:=h.le;have hll:=h.ll;have hcx:=h.cx;have hnk:t.kh.ob=none:=by rw [h.nk.2];rfl
 have hzB:B≤z.heap.size:=by have:=h.ti.pr.ge;have:=h.ti.pr.lt;omega
 have hcz:cx<z.heap.size:=h.bx.lt;rw [hnk]at hg;have hbx:=h1.bx.grown hg (by simp)
 have hex:e.In (x.alloc o):=he.1.mono (belA o);have hti:=h1.ti.chk ho (by rw [hnk];exact hg) (fun y _ g hh=>by rw [hnk]at hh;cases hh) ⟨hex,he.2.1.mono hzB,he.2.2⟩
 have hoff: ∀y∈t.checks ++ [e],y.Off cx:=fun y hy=>by
  rw [h.nk.1,List.nil_append,List.mem_singleton]at hy;subst hy;exact he.2.1.off hcz
 refine⟨gbo (gbo h1.gb hg (fun g e=>by cases e)) (gb_set _ _ _ _) (fun g e=>by injection e with e;omega),hle,tzo (tzo h1.tp hg hll (fun g e=>by cases e)) (gb_set _ _ _ _) hll (fun g e=>by injection e with e;omega),?_,?_,?_,h.na,h.ct⟩
 ·exact hti.keep (gb_set _ _ _ _) (fun g e=>by injection e with e;subst e;exact hti.off_box hbx hoff)
 ·have:=hbx.set 5 (.slice (some ⟨g,0,none⟩) (t.checks.length+1) cap)
  show Box _ cx #[.string t.name,.slice t.ch.ao t.cols.length t.ch.cap,.slice t.prim.h.ao t.prim.l.length t.prim.h.cap,.slice t.uh.ao t.uniqs.length t.uh.cap,.slice t.fh.ao t.fors.length t.fh.cap,.slice (some ⟨g,0,none⟩) (t.checks ++ [e]).length cap] _
  rw [show(t.checks ++ [e]).length=t.checks.length+1 by simp]
  exact this
 ·refine⟨fun y hy g' hb=> ?_,hu,hc,hl.1,hl.2,by show(t.checks ++ [e]).length≤2;rw [h.nk.1];show(1:Nat)≤2;omega⟩
  have hy':y∈t.checks ++ [e]:=hy;rw [h.nk.1,List.nil_append,List.mem_singleton]at hy';subst hy';rcases hb with hb|hb|hb|hb
  ·exact he.2.1.off (own_ob h.ti.oc hb).2.1
  ·exact he.2.1.off (own_ob h.ti.ou hb).2.1
  ·exact he.2.1.off (own_ob h.ti.of hb).2.1
  ·have:g=g':=by simpa [Hd.ob]using hb
   subst this;exact hex.off (by rw [hgg];exact Nat.le_refl _)
def TDis (t t':Tab) :Prop:=∀g,RowBlk t g→TOff g t'
theorem TI.base {z:World} {B B':Nat} {t:Tab} (h:TI z B t) (hb:B'≤B) :TI z B' t where
 oc:=base_own h.oc hb
 ou:=base_own h.ou hb
 of:=base_own h.of hb
 ok:=base_own h.ok hb
 nm:=h.nm
 cs:=h.cs
 pr:=h.pr.base hb
 us:=fun u hu=>(h.us u hu).base hb
 fs:=fun f hf=>⟨(h.fs f hf).1.base hb,(h.fs f hf).2⟩
 ks:=fun k hk=>⟨(h.ks k hk).1,(h.ks k hk).2.1.mono hb,(h.ks k hk).2.2⟩
def tnm (i:Nat) :ByteArray:=⟨#[116]⟩ ++ dig (i:Int)
structure SB (w z:World) (b:Nat) (L:IL) (a:Nat) (h:Hd) (ts:List Tab) :Prop where
 gb:w.grownBy z (some b)
 ll:b<w.heap.size∧(0<L.l.length→L.h.b<w.heap.size)
 tp:TapeIn z b L a
 b0:Box z w.heap.size #[.slice none 0 0] 28
 b1:Box z (w.heap.size+1) #[.slice h.ao ts.length h.cap] 28
 own:z.ownsRow (w.heap.size+2) 39 6 (.slice h.ao ts.length h.cap) ts.length (ts.flatMap Tab.cells)
 tis: ∀t∈ts,TI z (w.heap.size+2) t∧TFin t
 off: ∀t∈ts,∀g,h.ob=some g→TOff g t
 pw:ts.Pairwise fun t t'=>TDis t t'∧TDis t' t
 nms: ∀i (h:i<ts.length),ts[i].name=tnm i
 cts: ∀t∈ts,∀c∈t.cols,isT c.typ=true
theorem SB.next {w z z':World} {b a a':Nat} {L:IL} {h:Hd} {ts:List Tab} (s:SB w z b L a h ts) (hg:z.grownBy z' (some b)) (ht:TapeIn z' b L a') :SB w z' b L a' h ts where
 gb:=s.gb.trans hg
 ll:=s.ll
 tp:=ht
 b0:=s.b0.grown hg (by have:=s.ll;simp;omega)
 b1:=s.b1.grown hg (by have:=s.ll;simp;omega)
 own:=own_keep s.own hg fun g e e'=>by have:=(own_ob s.own e').1;injection e with e;have:=s.ll;omega
 tis:=fun t ht=>⟨(s.tis t ht).1.keepB hg (by have:=s.ll;omega),(s.tis t ht).2⟩
 off:=s.off
 pw:=s.pw
 nms:=s.nms
 cts:=s.cts
theorem SB.snoc {nm:ByteArray} {w V z z':World} {b a a' B cx g cap:Nat} {L:IL} {h:Hd} {ts:List Tab} {t:Tab} {o:Obj} (s:SB w V b L a h ts) (d:TD nm V z b L a' B cx t)
  (ho:z'.ownsRow (w.heap.size+2) 39 6 (.slice (some ⟨g,0,none⟩) (ts.length+1) cap) (ts.length+1) (ts.flatMap Tab.cells ++ Tab.cells t)) (hg: (z.alloc o).grownBy z' (Value.slice h.ao ts.length h.cap).ownBlock)
  (hgg: (Value.slice h.ao ts.length h.cap).ownBlock=some g∨g= (z.alloc o).heap.size) (hnm:nm=tnm ts.length) :
  SB w (z'.setCell ⟨w.heap.size+1,0,none⟩ (.slice (some ⟨g,0,none⟩) (ts.length+1) cap)) b L a' ⟨some ⟨g,0,none⟩,cap⟩ (ts ++ [t]):=by
 rw [Hd.ob_eq]at hg hgg;have h1:SB w (z.alloc o) b L a' h ts:=s.next (d.gb.trans (only_below (belA o) _)) (d.tp.mono (belA o));have hVB:=d.le;have hll:=s.ll;have hVw:w.heap.size+2≤V.heap.size:=by have:=s.b1.lt;omega
 have hob: ∀g,h.ob=some g→w.heap.size+2≤g∧g<V.heap.size:=fun g e=>⟨(own_ob s.own e).1,(own_ob s.own e).2.1⟩
 have hz:V.heap.size≤z.heap.size:=d.gb.size;have hg2:w.heap.size+2≤g:=by
  rcases hgg with e|e
  ·exact(hob g e).1
  ·have: (z.alloc o).heap.size=z.heap.size+1:=World.size_alloc _ _
   omega
 have ht1:TI (z.alloc o) B t:=d.ti.keepA o;have hll2:b<w.heap.size+2∧(0<L.l.length→L.h.b<w.heap.size+2):=⟨by omega,fun hp=>by have:=hll.2 hp;omega⟩
 refine⟨?_,hll,?_,?_,?_,?_,?_,?_,?_,?_,?_⟩
 ·exact gbo (gbo h1.gb hg (fun g e=>by have:=hob g e;omega)) (gb_set _ _ _ _) (fun g e=>by injection e with e;omega)
 ·exact tzo (tzo h1.tp hg hll2 (fun g e=>(hob g e).1)) (gb_set _ _ _ _) (B:=w.heap.size) hll (fun g e=>by injection e with e;omega)
 ·exact(h1.b0.grown hg (fun e=>by have:=hob _ e.symm;omega)).grown (gb_set _ _ _ _) (by simp)
 ·have:=(h1.b1.grown hg (fun e=>by have:=hob _ e.symm;omega)).set 0 (.slice (some ⟨g,0,none⟩) (ts.length+1) cap)
  rw [show(ts ++ [t]).length=ts.length+1 by simp]
  exact this
 ·rw [fm_snoc,List.length_append]
  exact own_keep (h:=⟨some ⟨g,0,none⟩,cap⟩) ho (gb_set _ _ _ _) (fun g' e e'=>by
   injection e with e;have h3:g=g':=by simpa [Hd.ob]using e'
   omega)
 ·intro y hy
  have hset: ∀ {x:World},TI x (w.heap.size+2) y→TI (x.setCell ⟨w.heap.size+1,0,none⟩ (.slice (some ⟨g,0,none⟩) (ts.length+1) cap)) (w.heap.size+2) y:=
   fun hx=>hx.keep (gb_set _ _ _ _) (fun g' e=>hx.off (.inl (by injection e with e;omega)))
  rcases List.mem_append.1 hy with hy|hy
  ·exact⟨hset ((h1.tis y hy).1.keep hg (fun g' e=>s.off y hy g' e)),(s.tis y hy).2⟩
  ·rw [List.mem_singleton]at hy
   subst hy;refine⟨hset ((ht1.keep hg (fun g' e=>ht1.off (.inl (by have:=(hob g' e).2;omega)))).base (by omega)),d.fin⟩
 ·intro y hy g' e
  have h3:g=g':=by simpa [Hd.ob]using e
  subst h3;rcases List.mem_append.1 hy with hy|hy
  ·rcases hgg with e|e
   ·exact s.off y hy g e
   ·exact(h1.tis y hy).1.off (.inr (by omega))
  ·rw [List.mem_singleton]at hy
   subst hy;rcases hgg with e|e
   ·exact ht1.off (.inl (by have:=(hob g e).2;omega))
   ·exact ht1.off (.inr (by omega))
 ·rw [List.pairwise_append]
  refine⟨s.pw,List.pairwise_singleton _ _,fun x hx y hy=> ?_⟩
  rw [List.mem_singleton]at hy;subst hy;exact⟨fun g hg=>ht1.off (.inl (by have:=((s.tis x hx).1.rowblk hg).2;omega)),fun g hg=>(s.tis x hx).1.off (.inr (by have:=(d.ti.rowblk hg).1;omega))⟩
 ·intro i hi
  by_cases h2:i<ts.length
  ·rw [List.getElem_append_left h2]
   exact s.nms i h2
  ·have h3:i=ts.length:=by simp at hi;omega
   subst h3;rw [List.getElem_append_right (Nat.le_refl _)];simp only [Nat.sub_self,List.getElem_cons_zero];rw [d.na,hnm]
 ·intro y hy
  rcases List.mem_append.1 hy with hy|hy
  ·exact s.cts y hy
  ·rw [List.mem_singleton.1 hy];exact d.ct
structure SchOut (w z:World) (b:Nat) (L:IL) (a:Nat) (h:Hd) (ts:List Tab) :Prop where
 gb:w.grownBy z (some b)
 tp:TapeIn z b L a
 own:z.ownsRow (w.heap.size+2) 39 6 (.slice h.ao ts.length h.cap) ts.length (ts.flatMap Tab.cells)
 tis: ∀t∈ts,TI z (w.heap.size+2) t∧TFin t
 off: ∀t∈ts,∀g,h.ob=some g→TOff g t
 pw:ts.Pairwise fun t t'=>TDis t t'∧TDis t' t
 nms: ∀i (h:i<ts.length),ts[i].name=tnm i
 cts: ∀t∈ts,∀c∈t.cols,isT c.typ=true
theorem SB.o {w z:World} {b a:Nat} {L:IL} {h:Hd} {ts:List Tab} (s:SB w z b L a h ts) (v:Value) :SchOut w (z.setCell ⟨w.heap.size,0,none⟩ v) b L a h ts where
 gb:=gb_then s.gb (gb_set _ _ _ _) (Nat.le_refl _)
 tp:=tz2 s.tp (gb_set _ _ _ _) s.ll (Nat.le_refl _)
 own:=own_keep s.own (gb_set _ _ _ _) fun g e e'=>by have:=(own_ob s.own e').1;injection e with e;omega
 tis:=fun t ht=>⟨(s.tis t ht).1.keep (gb_set _ _ _ _) (fun g e=>(s.tis t ht).1.off (.inl (by injection e with e;omega))),(s.tis t ht).2⟩
 off:=s.off
 pw:=s.pw
 nms:=s.nms
 cts:=s.cts
def SchemaAt:Prop:=∀(w:World) (b a:Nat) (L:IL),TapeIn w b L a→a≤1000000→
  Calls Tryd.prog 7 #[.pointer (some ⟨b,0,none⟩)] w fun e w'=>∃(h:Hd) (ts:List Tab),e = .returned (.agg #[.slice h.ao ts.length h.cap])∧1≤ts.length∧ts.length≤3∧∃a':Nat,a'≤a+400∧SchOut w w' b L a' h ts
end Go.Proofs.YtogalchclmmfgaaDoor

/- ref07.Canonical: the region that calls itself twice. -/
import Derived.Test.YtiijaaohphokcaaGreatDoorG38
import Derived.Test.YtiijaaohphokcaaGreatDoorG09
import Derived.Test.YtiijaaohphokcaaGreatDoorG10
import Derived.Deep.DeepCutAuto
set_option maxRecDepth 100000
set_option maxHeartbeats 16000000
namespace Go.Proofs.YtiijaaohphokcaaGreatDoor
open Go.RowKit
theorem cn_reg8 {b o cap m:Nat} {l:List VL} {W:World} (hq:Int.tdiv (l.length:Int) 2= (m:Int)) (hw:IntKind.i64.wrap (m:Int) =m) (hm0: (0:Int)≤m) (hmi: (m:Int)≤cap) (hml: (m:Int)≤l.length) (hlc: (l.length:Int)≤cap) (hmc:m<cap) (HHA:Hid (∀W2,Below W.heap.size W W2→Calls Tryz.prog 80 #[.slice (some ⟨b,o,none⟩) m cap] W2 (CanPost (⟨⟨some ⟨b,o,none⟩,cap⟩,l.take m⟩ :RL) W2))) (HHB:Hid (∀W2,Below W.heap.size W W2→Calls Tryz.prog 80 #[.slice (some ⟨b,o+m,none⟩) (l.length - m) (cap - m)] W2 (CanPost (⟨⟨some ⟨b,o+m,none⟩,cap - m⟩,l.drop m⟩ :RL) W2))) {Q:Exit→Act→World→Prop} {c:Code} {u1 u2 u3 u4 u5 u6 u7 u8 u9 u10 u11 u12 u13 u14 u15 u16 u17 u18 u19 u20 u21 u22 u23 u24 u25 u26 u27 u28 u29 u30 u31 u32 u33 u34 u35 u36 u37 u38 u39 u40 u41 u42 u43 u44 u45 u46 u47 u48 u49 u50 u51 u52 u53 u54 u55 u56 u57 u58 u59 u60 u61 u62 u63 u64 u65 u66 u67 u68 u69 u70 u71 u72 u73 u74 u75 u76 u77 u78 u79 u80 u81 u82 u83 u84 u85 u86 u87 u88 u89 u90:Value} (hc:c=codeIn [1,1,0] (Tryz.f80.body.getD .skip)) (hend: ∀(ra rb:RL) (x:World),Below W.heap.size W x→ra.In x→ra.rows.Perm (⟨⟨some ⟨b,o,none⟩,cap⟩,l.take m⟩ :RL).rows→Asc cmpR ra.rows→rb.In x→rb.rows.Perm (⟨⟨some ⟨b,o+m,none⟩,cap - m⟩,l.drop m⟩ :RL).rows→Asc cmpR rb.rows→Q .normal { tmps:=((.slice (some ⟨b,o,none⟩) l.length cap) :: u1 :: u2 :: u3 :: u4 :: .slice ra.h.ao ra.l.length ra.h.cap :: .slice rb.h.ao rb.l.length rb.h.cap :: u7 :: u8 :: u9 :: u10 :: u11 :: u12 :: u13 :: u14 :: u15 :: u16 :: u17 :: u18 :: u19 :: u20 :: u21 :: u22 :: u23 :: u24 :: u25 :: u26 :: u27 :: .slice (some ⟨b,o,none⟩) l.length cap :: .slice (some ⟨b,o,none⟩) l.length cap :: .int .i64 (l.length:Nat) :: .int .i64 (m:Nat) :: .slice (some ⟨b,o,none⟩) m cap :: .slice ra.h.ao ra.l.length ra.h.cap :: .slice (some ⟨b,o,none⟩) l.length cap :: .slice (some ⟨b,o,none⟩) l.length cap :: .int .i64 (l.length:Nat) :: .int .i64 (m:Nat) :: .slice (some ⟨b,o+m,none⟩) (l.length - m) (cap - m) :: .slice rb.h.ao rb.l.length rb.h.cap :: u40 :: u41 :: u42 :: u43 :: u44 :: u45 :: u46 :: u47 :: u48 :: u49 :: u50 :: u51 :: u52 :: u53 :: u54 :: u55 :: u56 :: u57 :: u58 :: u59 :: u60 :: u61 :: u62 :: u63 :: u64 :: u65 :: u66 :: u67 :: u68 :: u69 :: u70 :: u71 :: u72 :: u73 :: u74 :: u75 :: u76 :: u77 :: u78 :: u79 :: u80 :: u81 :: u82 :: u83 :: u84 :: u85 :: u86 :: u87 :: u88 :: u89 :: u90 :: []).toArray,defers:= [] } x) :Code.wp Tryz.prog c Q { tmps:=((.slice (some ⟨b,o,none⟩) l.length cap) :: u1 :: u2 :: u3 :: u4 :: u5 :: u6 :: u7 :: u8 :: u9 :: u10 :: u11 :: u12 :: u13 :: u14 :: u15 :: u16 :: u17 :: u18 :: u19 :: u20 :: u21 :: u22 :: u23 :: u24 :: u25 :: u26 :: u27 :: u28 :: u29 :: u30 :: u31 :: u32 :: u33 :: u34 :: u35 :: u36 :: u37 :: u38 :: u39 :: u40 :: u41 :: u42 :: u43 :: u44 :: u45 :: u46 :: u47 :: u48 :: u49 :: u50 :: u51 :: u52 :: u53 :: u54 :: u55 :: u56 :: u57 :: u58 :: u59 :: u60 :: u61 :: u62 :: u63 :: u64 :: u65 :: u66 :: u67 :: u68 :: u69 :: u70 :: u71 :: u72 :: u73 :: u74 :: u75 :: u76 :: u77 :: u78 :: u79 :: u80 :: u81 :: u82 :: u83 :: u84 :: u85 :: u86 :: u87 :: u88 :: u89 :: u90 :: []).toArray,defers:= [] } W:=by
 subst hc;conv=>enter [2];whnf
 refine wp_region_tail (by kernel_rfl) (by kernel_rfl) 12 (by show 12<_;decide) (by kernel_rfl) (by kernel_rfl) (fun s:Nat→Value=>({ tmps:=((.slice (some ⟨b,o,none⟩) l.length cap) :: u1 :: u2 :: u3 :: u4 :: u5 :: u6 :: u7 :: u8 :: u9 :: u10 :: u11 :: u12 :: u13 :: u14 :: u15 :: u16 :: u17 :: u18 :: u19 :: u20 :: u21 :: u22 :: u23 :: u24 :: u25 :: u26 :: u27 :: s 28 :: s 29 :: s 30 :: s 31 :: s 32 :: s 33 :: s 34 :: s 35 :: s 36 :: s 37 :: s 38 :: s 39 :: u40 :: u41 :: u42 :: u43 :: u44 :: u45 :: u46 :: u47 :: u48 :: u49 :: u50 :: u51 :: u52 :: u53 :: u54 :: u55 :: u56 :: u57 :: u58 :: u59 :: u60 :: u61 :: u62 :: u63 :: u64 :: u65 :: u66 :: u67 :: u68 :: u69 :: u70 :: u71 :: u72 :: u73 :: u74 :: u75 :: u76 :: u77 :: u78 :: u79 :: u80 :: u81 :: u82 :: u83 :: u84 :: u85 :: u86 :: u87 :: u88 :: u89 :: u90 :: []).toArray,defers:= [] } : Act)) (fun k=>if k=28 then u28 else if k=29 then u29 else if k=30 then u30 else if k=31 then u31 else if k=32 then u32 else if k=33 then u33 else if k=34 then u34 else if k=35 then u35 else if k=36 then u36 else if k=37 then u37 else if k=38 then u38 else if k=39 then u39 else undef) rfl (fun i v x=>(i=5→∃ra,v = .slice ra.h.ao ra.l.length ra.h.cap∧RL.In x ra∧(ra.rows.Perm (⟨⟨some ⟨b,o,none⟩,cap⟩,l.take m⟩ :RL).rows∧Asc cmpR ra.rows))∧(i=11→∃rb,v = .slice rb.h.ao rb.l.length rb.h.cap∧RL.In x rb∧(rb.rows.Perm (⟨⟨some ⟨b,o+m,none⟩,cap - m⟩,l.drop m⟩ :RL).rows∧Asc cmpR rb.rows))∧(i≠5→i≠11→([.slice (some ⟨b,o,none⟩) l.length cap,.slice (some ⟨b,o,none⟩) l.length cap,.int .i64 (l.length:Nat),.int .i64 (m:Nat),.slice (some ⟨b,o,none⟩) m cap,undef,.slice (some ⟨b,o,none⟩) l.length cap,.slice (some ⟨b,o,none⟩) l.length cap,.int .i64 (l.length:Nat),.int .i64 (m:Nat),.slice (some ⟨b,o+m,none⟩) (l.length - m) (cap - m),undef] :List Value)[i]? = some v)) (fun i v x y h hb=>⟨fun hi=>(by obtain⟨ra,h0,q0,q1⟩:=h.1 hi;exact⟨ra,h0,q0.mono hb,q1⟩),fun hi=>(by obtain⟨rb,h0,q0,q1⟩:=h.2.1 hi;exact⟨rb,h0,q0.mono hb,q1⟩),h.2.2⟩) (fun i=>([28,29,30,31,32,33,34,35,36,37,38,39] :List Nat).getD i 0) ?inj ?step ?last
 case inj=>
  intro i j hi hj h;have hI:i=0∨i=1∨i=2∨i=3∨i=4∨i=5∨i=6∨i=7∨i=8∨i=9∨i=10∨i=11:=by omega
  have hJ:j=0∨j=1∨j=2∨j=3∨j=4∨j=5∨j=6∨j=7∨j=8∨j=9∨j=10∨j=11:=by omega
  rcases hI with rfl|rfl|rfl|rfl|rfl|rfl|rfl|rfl|rfl|rfl|rfl|rfl<;>rcases hJ with rfl|rfl|rfl|rfl|rfl|rfl|rfl|rfl|rfl|rfl|rfl|rfl<;>first|rfl| (exact absurd h (by decide))
 case last=>
  intro s x hv hb;have HB:=ai hb;clear hb;have z0:s 28 = .slice (some ⟨b,o,none⟩) l.length cap:=by have h:=(hv 0 (by decide)).2.2 (by decide) (by decide);injection h with h;exact h.symm
  have z1:s 29 = .slice (some ⟨b,o,none⟩) l.length cap:=by have h:=(hv 1 (by decide)).2.2 (by decide) (by decide);injection h with h;exact h.symm
  have z2:s 30 = .int .i64 (l.length:Nat):=by have h:=(hv 2 (by decide)).2.2 (by decide) (by decide);injection h with h;exact h.symm
  have z3:s 31 = .int .i64 (m:Nat):=by have h:=(hv 3 (by decide)).2.2 (by decide) (by decide);injection h with h;exact h.symm
  have z4:s 32 = .slice (some ⟨b,o,none⟩) m cap:=by have h:=(hv 4 (by decide)).2.2 (by decide) (by decide);injection h with h;exact h.symm
  obtain⟨ra,hz5,hg5_0,hg5_1⟩:=(hv 5 (by decide)).1 rfl
  have z5:s 33 = .slice ra.h.ao ra.l.length ra.h.cap:=hz5;clear hz5;have z6:s 34 = .slice (some ⟨b,o,none⟩) l.length cap:=by have h:=(hv 6 (by decide)).2.2 (by decide) (by decide);injection h with h;exact h.symm
  have z7:s 35 = .slice (some ⟨b,o,none⟩) l.length cap:=by have h:=(hv 7 (by decide)).2.2 (by decide) (by decide);injection h with h;exact h.symm
  have z8:s 36 = .int .i64 (l.length:Nat):=by have h:=(hv 8 (by decide)).2.2 (by decide) (by decide);injection h with h;exact h.symm
  have z9:s 37 = .int .i64 (m:Nat):=by have h:=(hv 9 (by decide)).2.2 (by decide) (by decide);injection h with h;exact h.symm
  have z10:s 38 = .slice (some ⟨b,o+m,none⟩) (l.length - m) (cap - m):=by have h:=(hv 10 (by decide)).2.2 (by decide) (by decide);injection h with h;exact h.symm
  obtain⟨rb,hz11,hg11_0,hg11_1⟩:=(hv 11 (by decide)).2.1 rfl
  have z11:s 39 = .slice rb.h.ao rb.l.length rb.h.cap:=hz11;clear hz11;clear hv;have HRA:=ai (And.intro hg5_0 hg5_1);have HRB:=ai (And.intro hg11_0 hg11_1);clear hg5_0 hg5_1 hg11_0 hg11_1
  show Oper.wp _ _ _ _ _ _
  refine opwp_K (fun K2 hK2=> ?_)
  go_simp
  refine hK2 _ _ ?_
  show Oper.wp _ _ _ _ _ _
  clear hK2;refine opwp_K (fun K3 hK3=> ?_)
  go_simp
  refine hK3 _ _ ?_
  have h:=hend ra rb x HB.o HRA.o.1 HRA.o.2.1 HRA.o.2.2 HRB.o.1 HRB.o.2.1 HRB.o.2.2
  show Q _ _ _
  first|exact h| (simp only [z0,z1,z2,z3,z4,z5,z6,z7,z8,z9,z10,z11];exact h)
 case step=>
  intro i o s x hin ho he hb;have HB:=ai hb;clear hb;have hcase:i=0∨i=1∨i=2∨i=3∨i=4∨i=5∨i=6∨i=7∨i=8∨i=9∨i=10∨i=11:=by omega
  rcases hcase with rfl|rfl|rfl|rfl|rfl|rfl|rfl|rfl|rfl|rfl|rfl|rfl
  ·injection ho with ho
   subst ho;clear he;refine opwp_K (fun K2 hK2=> ?_)
   go_simp
   exact hK2 _ _ ⟨(.slice (some ⟨b,o,none⟩) l.length cap),(by first|rfl| (simp [List.getD];done)),Below.refl _ _,⟨fun h=>absurd h (by decide),fun h=>absurd h (by decide),fun _ _=>rfl⟩⟩
  ·injection ho with ho
   subst ho;clear he;refine opwp_K (fun K2 hK2=> ?_)
   go_simp
   exact hK2 _ _ ⟨(.slice (some ⟨b,o,none⟩) l.length cap),(by first|rfl| (simp [List.getD];done)),Below.refl _ _,⟨fun h=>absurd h (by decide),fun h=>absurd h (by decide),fun _ _=>rfl⟩⟩
  ·injection ho with ho
   subst ho;have z1:s 29 = .slice (some ⟨b,o,none⟩) l.length cap:=by have h:=(he ⟨1,.data⟩ (by simp) rfl).2.2 (by decide) (by decide);injection h with h;exact h.symm
   clear he;refine opwp_K (fun K2 hK2=> ?_)
   go_simp
   exact hK2 _ _ ⟨(.int .i64 (l.length:Nat)),(by first|rfl| (simp [z1];done)),Below.refl _ _,⟨fun h=>absurd h (by decide),fun h=>absurd h (by decide),fun _ _=>rfl⟩⟩
  ·injection ho with ho
   subst ho;have z2:s 30 = .int .i64 (l.length:Nat):=by have h:=(he ⟨2,.data⟩ (by simp) rfl).2.2 (by decide) (by decide);injection h with h;exact h.symm
   clear he;refine opwp_K (fun K2 hK2=> ?_)
   go_simp
   exact hK2 _ _ ⟨(.int .i64 (m:Nat)),(by first|rfl| (simp [z2];done)),Below.refl _ _,⟨fun h=>absurd h (by decide),fun h=>absurd h (by decide),fun _ _=>rfl⟩⟩
  ·injection ho with ho
   subst ho;have z0:s 28 = .slice (some ⟨b,o,none⟩) l.length cap:=by have h:=(he ⟨0,.data⟩ (by simp) rfl).2.2 (by decide) (by decide);injection h with h;exact h.symm
   have z3:s 31 = .int .i64 (m:Nat):=by have h:=(he ⟨3,.data⟩ (by simp) rfl).2.2 (by decide) (by decide);injection h with h;exact h.symm
   clear he;refine opwp_K (fun K2 hK2=> ?_)
   go_simp
   exact hK2 _ _ ⟨(.slice (some ⟨b,o,none⟩) m cap),(by first|rfl| (simp [z0,z3];done)),Below.refl _ _,⟨fun h=>absurd h (by decide),fun h=>absurd h (by decide),fun _ _=>rfl⟩⟩
  ·injection ho with ho
   subst ho;have z4:s 32 = .slice (some ⟨b,o,none⟩) m cap:=by have h:=(he ⟨4,.data⟩ (by simp) rfl).2.2 (by decide) (by decide);injection h with h;exact h.symm
   clear he;refine opwp_K (fun K2 hK2=> ?_)
   go_simp
   go_at_call 80
   refine(HHA.o _ HB.o).mono ?_
   rintro _ z ⟨ra,rfl,h1,h2,h3,h4,hz⟩;have H1:=ai h2;have H2:=ai h3;clear h2 h3 h4
   go_simp
   exact hK2 _ _ ⟨_,(by first|rfl| (simp [z4];done)),hz,⟨fun _=>⟨ra,rfl,h1,H1.o,H2.o⟩,fun h=>absurd h (by decide),fun h _=>absurd rfl h⟩⟩
  ·injection ho with ho
   subst ho;clear he;refine opwp_K (fun K2 hK2=> ?_)
   go_simp
   exact hK2 _ _ ⟨(.slice (some ⟨b,o,none⟩) l.length cap),(by first|rfl| (simp [List.getD];done)),Below.refl _ _,⟨fun h=>absurd h (by decide),fun h=>absurd h (by decide),fun _ _=>rfl⟩⟩
  ·injection ho with ho
   subst ho;clear he;refine opwp_K (fun K2 hK2=> ?_)
   go_simp
   exact hK2 _ _ ⟨(.slice (some ⟨b,o,none⟩) l.length cap),(by first|rfl| (simp [List.getD];done)),Below.refl _ _,⟨fun h=>absurd h (by decide),fun h=>absurd h (by decide),fun _ _=>rfl⟩⟩
  ·injection ho with ho
   subst ho;have z7:s 35 = .slice (some ⟨b,o,none⟩) l.length cap:=by have h:=(he ⟨7,.data⟩ (by simp) rfl).2.2 (by decide) (by decide);injection h with h;exact h.symm
   clear he;refine opwp_K (fun K2 hK2=> ?_)
   go_simp
   exact hK2 _ _ ⟨(.int .i64 (l.length:Nat)),(by first|rfl| (simp [z7];done)),Below.refl _ _,⟨fun h=>absurd h (by decide),fun h=>absurd h (by decide),fun _ _=>rfl⟩⟩
  ·injection ho with ho
   subst ho;have z8:s 36 = .int .i64 (l.length:Nat):=by have h:=(he ⟨8,.data⟩ (by simp) rfl).2.2 (by decide) (by decide);injection h with h;exact h.symm
   clear he;refine opwp_K (fun K2 hK2=> ?_)
   go_simp
   exact hK2 _ _ ⟨(.int .i64 (m:Nat)),(by first|rfl| (simp [z8];done)),Below.refl _ _,⟨fun h=>absurd h (by decide),fun h=>absurd h (by decide),fun _ _=>rfl⟩⟩
  ·injection ho with ho
   subst ho;have z6:s 34 = .slice (some ⟨b,o,none⟩) l.length cap:=by have h:=(he ⟨6,.data⟩ (by simp) rfl).2.2 (by decide) (by decide);injection h with h;exact h.symm
   have z9:s 37 = .int .i64 (m:Nat):=by have h:=(he ⟨9,.data⟩ (by simp) rfl).2.2 (by decide) (by decide);injection h with h;exact h.symm
   clear he;refine opwp_K (fun K2 hK2=> ?_)
   go_simp
   exact hK2 _ _ ⟨(.slice (some ⟨b,o+m,none⟩) (l.length - m) (cap - m)),(by first|rfl| (simp [z6,z9];omega)),Below.refl _ _,⟨fun h=>absurd h (by decide),fun h=>absurd h (by decide),fun _ _=>rfl⟩⟩
  ·injection ho with ho
   subst ho;have z10:s 38 = .slice (some ⟨b,o+m,none⟩) (l.length - m) (cap - m):=by have h:=(he ⟨10,.data⟩ (by simp) rfl).2.2 (by decide) (by decide);injection h with h;exact h.symm
   clear he;refine opwp_K (fun K2 hK2=> ?_)
   go_simp
   go_at_call 80
   refine(HHB.o _ HB.o).mono ?_
   rintro _ z ⟨rb,rfl,h1,h2,h3,h4,hz⟩;have H1:=ai h2;have H2:=ai h3;clear h2 h3 h4
   go_simp
   exact hK2 _ _ ⟨_,(by first|rfl| (simp [z10];done)),hz,⟨fun h=>absurd h (by decide),fun _=>⟨rb,rfl,h1,H1.o,H2.o⟩,fun _ h=>absurd rfl h⟩⟩
end Go.Proofs.YtiijaaohphokcaaGreatDoor
/- ref07.Canonical at any number of rows. -/
namespace Go.Proofs.YtiijaaohphokcaaGreatDoor
open Go.RowKit
theorem rows_le {x r:RL} (hp:r.rows.Perm x.rows) (hx: ∀v∈x.l,v.l.length≤1000) : ∀v∈r.l,v.l.length≤1000:=fun v hv=>by
 have h4:v.l∈x.rows:=hp.subset (List.mem_map_of_mem hv);obtain⟨u,hu,e⟩:=List.mem_map.1 h4;rw [←e];exact hx u hu
theorem rows_len' {x:RL} : x.rows.length=x.l.length:=List.length_map _
theorem rows_get {x:RL} {i:Nat} (hi:i<x.l.length) :x.rows[i]'(by rw [rows_len'];exact hi) = (x.l[i]).l:=by unfold RL.rows;rw [List.getElem_map]
theorem canon_many (x:RL) (w:World) (hx:x.In w) (hr: ∀v∈x.l,v.l.length≤1000) (h2:2≤x.l.length) (hn:x.l.length≤1000)
  (ih: ∀(y:RL) (W:World),y.In W→(∀v∈y.l,v.l.length≤1000)→y.l.length<x.l.length→Calls Tryz.prog 80 #[.slice y.h.ao y.l.length y.h.cap] W (CanPost y W)) :Calls Tryz.prog 80 #[.slice x.h.ao x.l.length x.h.cap] w (CanPost x w):=by
 obtain⟨i0,hi,hz0,hz1,hz2⟩:=info_parts info_rv;have HI:=ai (And.intro hi (And.intro hz0 (And.intro hz1 hz2)));obtain⟨⟨ao,cap⟩,l⟩:=x;obtain⟨b,o,hao⟩ : ∃b o,ao=some ⟨b,o,none⟩:=⟨_,_,(hx.1.2.2.1 (by show 0<l.length;have h2:2≤l.length:=h2;omega)).1⟩
 subst hao
 dsimp only at h2 hn ih hr ⊢
 have hcl:l.length≤cap:=hx.1.1;obtain⟨m,hm⟩ : ∃m,l.length / 2=m:=⟨_,rfl⟩;have hm1:1≤m:=by omega
 have hm2:m<l.length:=by omega
 have hq:Int.tdiv (l.length:Int) 2= (m:Int):=by rw [Int.tdiv_eq_ediv_of_nonneg (by omega)];omega
 have hw:IntKind.i64.wrap (m:Int) =m:=by rw [IntKind.wrap_i64];omega
 have hm0: (0:Int)≤m:=by omega
 have hlc: (l.length:Int)≤cap:=by omega
 have HHA:=ai (show∀W,Below w.heap.size w W→Calls Tryz.prog 80 #[.slice (some ⟨b,o,none⟩) m cap] W (CanPost ⟨⟨some ⟨b,o,none⟩,cap⟩,l.take m⟩ W)from fun W hW=>by
  have h:=ih ⟨⟨some ⟨b,o,none⟩,cap⟩,l.take m⟩ W (rl_take (hx.mono hW) m) (fun v hv=>hr v (List.mem_of_mem_take hv)) (by show(l.take m).length<_;rw [List.length_take];omega)
  rwa [show(⟨⟨some ⟨b,o,none⟩,cap⟩,l.take m⟩ :RL).l.length=m from by show(l.take m).length=m;rw [List.length_take];omega]at h)
 have HHB:=ai (show∀W,Below w.heap.size w W→Calls Tryz.prog 80 #[.slice (some ⟨b,o+m,none⟩) (l.length - m:Nat) (cap - m)] W (CanPost ⟨⟨some ⟨b,o+m,none⟩,cap - m⟩,l.drop m⟩ W)from fun W hW=>by
  have h:=ih ⟨⟨some ⟨b,o+m,none⟩,cap - m⟩,l.drop m⟩ W (rl_drop (hx.mono hW) (by omega)) (fun v hv=>hr v (List.mem_of_mem_drop hv)) (by show(l.drop m).length<_;rw [List.length_drop];omega)
  rwa [show(⟨⟨some ⟨b,o+m,none⟩,cap - m⟩,l.drop m⟩ :RL).l.length=l.length - m from List.length_drop]at h)
 have h2i: ¬(l.length:Int) <2:=by omega
 have hmi: (m:Int)≤cap:=by omega
 have hml: (m:Int)≤l.length:=by omega
 have HR:=ai hr;clear hi hz0 hz1 hz2 hx hr ih hm
 go_enter Tryz.func80,Tryz.ntmps80;go_upto_region 8 with fail
 refine cn_reg8 (b:=b) (o:=o) (cap:=cap) (m:=m) (l:=l) (W:=w) hq hw hm0 hmi hml hlc (by omega) HHA HHB ?hc ?hend
 case hc=>rfl
 case hend=>
 intro ra rb X hbX hra hpa hsa hrb hpb hsb;have HPP:=ai (show(ra.rows ++ rb.rows).Perm (l.map VL.l)from(hpa.append hpb).trans (by
  unfold RL.rows
  rw [←List.map_append,List.take_append_drop]))
 have HRA:=ai hra;have HRB:=ai hrb;have HSA:=ai hsa;have HSB:=ai hsb;have HBX:=ai hbX;have HLA:=ai (show ra.l.length≤1000∧rb.l.length≤1000 from by
  have h1:=hpa.length_eq;have h2:=hpb.length_eq;rw [rows_len',rows_len']at h1 h2;have h3: (l.take m).length≤l.length:=List.length_take_le' _ _;have h4: (l.drop m).length≤l.length:=by rw [List.length_drop];omega
  exact⟨by rw [h1];exact Nat.le_trans h3 hn,by rw [h2];exact Nat.le_trans h4 hn⟩)
 clear hra hrb hsa hsb hpa hpb hq hw hm0 hmi hml hlc HHA HHB hm1 hm2 h2i hbX;go_wp2;go_loopw [7,8,9] (fun v i k wr=>∃(i' k':Nat) (outs:List VL),i = .int .i64 i'∧k = .int .i64 k'∧Hid (OutV X.heap.size v outs wr)∧Hid (Mg cmpR ra.rows rb.rows (outs.map VL.l) i' k')∧Hid (Below X.heap.size X wr)) (fun _ i k _=>ra.l.length+rb.l.length - (intOf i).toNat - (intOf k).toNat)
 case atStart=>exact⟨0,0,[],rfl,rfl,ai (OutV.nil _ _ (Nat.le_refl _)),ai (Mg.nil _ _ _),ai (Below.refl _ _)⟩
 case round=>
  obtain⟨i,k,outs,rfl,rfl,HO,HM,HB⟩:=hrel;have hmi:=HM.o.hi;have hmk:=HM.o.hk;rw [rows_len']at hmi hmk;have HLO:=ai (show outs.length=i+k from by
   have h:=HM.o.perm.length_eq;rw [List.length_map,List.length_append,List.length_take,List.length_take,rows_len',rows_len']at h;omega)
  have HAW:=ai (HRA.o.mono HB.o);have HBW:=ai (HRB.o.mono HB.o);have hib:i≤1000:=by have:=HLA.o;omega
  have hkb0:k≤1000:=by have:=HLA.o;omega
  by_cases hia:i<ra.l.length
  ·have hiai: (i:Int) <ra.l.length:=by omega
   have hixc:=HAW.o.1.ix hia Tryz.underlying49 szrows;have c0:=vl_at1 HAW.o.1 hia;obtain⟨va,hva⟩ : ∃v,ra.l[i] =v:=⟨_,rfl⟩;rw [hva]at c0;have HvaI:=ai (HAW.o.2 va (hva▸List.getElem_mem hia));have HvaO:=ai (show 0<va.l.length→∀lv:Value,(∀g,lv.ownBlock=some g→X.heap.size≤g)→lv.ownBlock≠some va.h.b from fun hp lv h1 e=>by have:=(HRA.o.2 va (hva▸List.getElem_mem hia)).1.blk hp;have:=h1 _ e;omega)
   have HvaR:=ai (show ra.rows[i]'(by rw [rows_len'];exact hia) =va.l from by rw [rows_get hia,hva])
   have HvaE:=ai hva;clear hva;by_cases hkb:k<rb.l.length
   ·have hkbi: (k:Int) <rb.l.length:=by omega
    have hkne: ((k:Int) == (rb.l.length:Int)) =false:=beq_eq_false_iff_ne.2 (by omega)
    have hixd:=HBW.o.1.ix hkb Tryz.underlying49 szrows;have d0:=vl_at1 HBW.o.1 hkb;obtain⟨vb,hvb⟩ : ∃v,rb.l[k] =v:=⟨_,rfl⟩;rw [hvb]at d0;have HvbI:=ai (HBW.o.2 vb (hvb▸List.getElem_mem hkb));have HvbO:=ai (show 0<vb.l.length→∀lv:Value,(∀g,lv.ownBlock=some g→X.heap.size≤g)→lv.ownBlock≠some vb.h.b from fun hp lv h1 e=>by have:=(HRB.o.2 vb (hvb▸List.getElem_mem hkb)).1.blk hp;have:=h1 _ e;omega)
    have HvbR:=ai (show rb.rows[k]'(by rw [rows_len'];exact hkb) =vb.l from by rw [rows_get hkb,hvb])
    have HvbE:=ai hvb;clear hvb;obtain⟨c,hcv⟩ : ∃c,cmpR va.l vb.l=c:=⟨_,rfl⟩;have HCV:=ai hcv;have HCR:=ai (fun(W:World) (hW:Below wr.heap.size wr W)=>rcrows_any va vb W (HvaI.o.mono hW) (HvbI.o.mono hW))
    rw [hcv]at HCR;clear hcv;have x0:=hy_of c0;have y0:=hy_of d0;go_upto_region 12 with fail
    go_region_held3 (fun w'=>Below wr.heap.size wr w') ((first|exact(Below.refl _ _).drew|exact bT (by assumption) (by assumption))) (first| (go_at_call 99;refine(HCR.o _ (by assumption)).mono ?_;rintro e z ⟨rfl,hz⟩))
    have HZ:=ai (show Below wr.heap.size wr z by assumption)
    clear hz x0 y0 hixc hixd c0 d0;by_cases hle:c≤0
    ·have HLE:=ai hle
     have c0:=vl_at1 (HAW.o.mono HZ.o).1 hia;rw [HvaE.o]at c0;have hixc:=(HAW.o.mono HZ.o).1.ix hia Tryz.underlying49 szrows;have HLX:=ai (show outs.length≤2000 from by have:=HLO.o;have:=HLA.o;omega)
     have HOZ:=ai ((HO.o.below HZ.o).below (belA (.cells #[.slice va.h.ao va.l.length va.h.cap] 96)));go_wp2_with (at_builtin;refine wpList_append_own_at _ rfl _ _ 49 rfl X.heap.size 96 i0 (.slice none 0 0) 1 24 Tryz.underlying49 HI.o.1 HI.o.2.1 HI.o.2.2.1 HI.o.2.2.2 rfl (by decide) _ _ _ rfl HOZ.o.own ⟨z.heap.size,0,none⟩ 1 1 [.slice va.h.ao va.l.length va.h.cap] rfl rfl (new_cells (l:= [_])) (by intro u hu;rw [List.mem_singleton.1 hu];rfl) (by have:=HLX.o;unfold maxLen;omega) (by have:=HLX.o;omega) HOZ.o.ge ?_;intro v1 z1 hown hgrow _ hblk;have HW:=ai hown;have HG:=ai hgrow;have HK:=ai hblk;clear hown hgrow hblk)
     have HOV:=ai (HOZ.o.app ((HvaI.o.mono HZ.o).mono (belA _)) (fun hp=>HvaO.o hp _ (fun g hg=>(HO.o.own.lt g hg).1)) HG.o HW.o HK.o)
     have HBZ:=ai (show Below X.heap.size X z1 from(bT (bT HB.o HZ.o) (belA _)).grown HG.o (by have:=HB.o.size;have:=HZ.o.size;simp;omega) (fun j hj=>(HO.o.own.lt j hj).1))
     have HMN:=ai (show Mg cmpR ra.rows rb.rows ((outs ++ [va]).map VL.l) (i+1) k from by rw [List.map_append,List.map_cons,List.map_nil,←HvaR.o];exact HM.o.left isCmp_row HSA.o HSB.o (by rw [rows_len'];exact hia) (fun _=>by rw [HvaR.o,HvbR.o,HCV.o];exact HLE.o))
     go_roundw
     case rel=>exact⟨i+1,k,outs ++ [va],by go_num,rfl,HOV,HMN,HBZ⟩
     case measure=>simp [intOf];omega
    ·have HLE:=ai hle
     have d0:=vl_at1 (HBW.o.mono HZ.o).1 hkb;rw [HvbE.o]at d0;have hixd:=(HBW.o.mono HZ.o).1.ix hkb Tryz.underlying49 szrows;have HLX:=ai (show outs.length≤2000 from by have:=HLO.o;have:=HLA.o;omega)
     have HOZ:=ai ((HO.o.below HZ.o).below (belA (.cells #[.slice vb.h.ao vb.l.length vb.h.cap] 96)));go_wp2_with (at_builtin;refine wpList_append_own_at _ rfl _ _ 49 rfl X.heap.size 96 i0 (.slice none 0 0) 1 24 Tryz.underlying49 HI.o.1 HI.o.2.1 HI.o.2.2.1 HI.o.2.2.2 rfl (by decide) _ _ _ rfl HOZ.o.own ⟨z.heap.size,0,none⟩ 1 1 [.slice vb.h.ao vb.l.length vb.h.cap] rfl rfl (new_cells (l:= [_])) (by intro u hu;rw [List.mem_singleton.1 hu];rfl) (by have:=HLX.o;unfold maxLen;omega) (by have:=HLX.o;omega) HOZ.o.ge ?_;intro v1 z1 hown hgrow _ hblk;have HW:=ai hown;have HG:=ai hgrow;have HK:=ai hblk;clear hown hgrow hblk)
     have HOV:=ai (HOZ.o.app ((HvbI.o.mono HZ.o).mono (belA _)) (fun hp=>HvbO.o hp _ (fun g hg=>(HO.o.own.lt g hg).1)) HG.o HW.o HK.o)
     have HBZ:=ai (show Below X.heap.size X z1 from(bT (bT HB.o HZ.o) (belA _)).grown HG.o (by have:=HB.o.size;have:=HZ.o.size;simp;omega) (fun j hj=>(HO.o.own.lt j hj).1))
     have HMN:=ai (show Mg cmpR ra.rows rb.rows ((outs ++ [vb]).map VL.l) i (k+1)from by rw [List.map_append,List.map_cons,List.map_nil,←HvbR.o];exact HM.o.right isCmp_row HSA.o HSB.o (by rw [rows_len'];exact hkb) (fun _=>by rw [HvaR.o,HvbR.o,HCV.o];exact HLE.o))
     go_roundw
     case rel=>exact⟨i,k+1,outs ++ [vb],rfl,by go_num,HOV,HMN,HBZ⟩
     case measure=>simp [intOf];omega
   ·have hkb2: ¬(k:Int) <rb.l.length:=by omega
    have hkeq: ((k:Int) == (rb.l.length:Int)) =true:=beq_iff_eq.2 (by omega)
    have HKB:=ai hkb;clear hkb;go_upto_region 12 with fail
    go_quiet (fail)
    generalize hX1:wr.drewN nq=z;have HZ:=ai (show Below wr.heap.size wr z from by rw [←hX1];exact below_drewN (Below.refl _ _) _)
    clear hX1;have c0:=vl_at1 (HAW.o.mono HZ.o).1 hia;rw [HvaE.o]at c0;have HLX:=ai (show outs.length≤2000 from by have:=HLO.o;have:=HLA.o;omega)
    have HOZ:=ai ((HO.o.below HZ.o).below (belA (.cells #[.slice va.h.ao va.l.length va.h.cap] 96)));go_wp2_with (at_builtin;refine wpList_append_own_at _ rfl _ _ 49 rfl X.heap.size 96 i0 (.slice none 0 0) 1 24 Tryz.underlying49 HI.o.1 HI.o.2.1 HI.o.2.2.1 HI.o.2.2.2 rfl (by decide) _ _ _ rfl HOZ.o.own ⟨z.heap.size,0,none⟩ 1 1 [.slice va.h.ao va.l.length va.h.cap] rfl rfl (new_cells (l:= [_])) (by intro u hu;rw [List.mem_singleton.1 hu];rfl) (by have:=HLX.o;unfold maxLen;omega) (by have:=HLX.o;omega) HOZ.o.ge ?_;intro v1 z1 hown hgrow _ hblk;have HW:=ai hown;have HG:=ai hgrow;have HK:=ai hblk;clear hown hgrow hblk)
    have HOV:=ai (HOZ.o.app ((HvaI.o.mono HZ.o).mono (belA _)) (fun hp=>HvaO.o hp _ (fun g hg=>(HO.o.own.lt g hg).1)) HG.o HW.o HK.o)
    have HBZ:=ai (show Below X.heap.size X z1 from(bT (bT HB.o HZ.o) (belA _)).grown HG.o (by have:=HB.o.size;have:=HZ.o.size;simp;omega) (fun j hj=>(HO.o.own.lt j hj).1))
    have HMN:=ai (show Mg cmpR ra.rows rb.rows ((outs ++ [va]).map VL.l) (i+1) k from by rw [List.map_append,List.map_cons,List.map_nil,←HvaR.o];exact HM.o.left isCmp_row HSA.o HSB.o (by rw [rows_len'];exact hia) (fun hk=>absurd (by rwa [rows_len']at hk) HKB.o))
    go_roundw
    case rel=>exact⟨i+1,k,outs ++ [va],by go_num,rfl,HOV,HMN,HBZ⟩
    case measure=>simp [intOf];omega
  ·have hiai: ¬(i:Int) <ra.l.length:=by omega
   by_cases hkb:k<rb.l.length
   ·have hkbi: (k:Int) <rb.l.length:=by omega
    have hkne: ((k:Int) == (rb.l.length:Int)) =false:=beq_eq_false_iff_ne.2 (by omega)
    have hixd:=HBW.o.1.ix hkb Tryz.underlying49 szrows;have d0:=vl_at1 HBW.o.1 hkb;obtain⟨vb,hvb⟩ : ∃v,rb.l[k] =v:=⟨_,rfl⟩;rw [hvb]at d0;have HvbI:=ai (HBW.o.2 vb (hvb▸List.getElem_mem hkb));have HvbO:=ai (show 0<vb.l.length→∀lv:Value,(∀g,lv.ownBlock=some g→X.heap.size≤g)→lv.ownBlock≠some vb.h.b from fun hp lv h1 e=>by have:=(HRB.o.2 vb (hvb▸List.getElem_mem hkb)).1.blk hp;have:=h1 _ e;omega)
    have HvbR:=ai (show rb.rows[k]'(by rw [rows_len'];exact hkb) =vb.l from by rw [rows_get hkb,hvb])
    have HvbE:=ai hvb;clear hvb;have HIA:=ai hia;clear hia;go_upto_region 12 with fail
    go_quiet (fail)
    generalize hX1:wr.drewN nq=z;have HZ:=ai (show Below wr.heap.size wr z from by rw [←hX1];exact below_drewN (Below.refl _ _) _)
    clear hX1;have d0:=vl_at1 (HBW.o.mono HZ.o).1 hkb;rw [HvbE.o]at d0;have HLX:=ai (show outs.length≤2000 from by have:=HLO.o;have:=HLA.o;omega)
    have HOZ:=ai ((HO.o.below HZ.o).below (belA (.cells #[.slice vb.h.ao vb.l.length vb.h.cap] 96)));go_wp2_with (at_builtin;refine wpList_append_own_at _ rfl _ _ 49 rfl X.heap.size 96 i0 (.slice none 0 0) 1 24 Tryz.underlying49 HI.o.1 HI.o.2.1 HI.o.2.2.1 HI.o.2.2.2 rfl (by decide) _ _ _ rfl HOZ.o.own ⟨z.heap.size,0,none⟩ 1 1 [.slice vb.h.ao vb.l.length vb.h.cap] rfl rfl (new_cells (l:= [_])) (by intro u hu;rw [List.mem_singleton.1 hu];rfl) (by have:=HLX.o;unfold maxLen;omega) (by have:=HLX.o;omega) HOZ.o.ge ?_;intro v1 z1 hown hgrow _ hblk;have HW:=ai hown;have HG:=ai hgrow;have HK:=ai hblk;clear hown hgrow hblk)
    have HOV:=ai (HOZ.o.app ((HvbI.o.mono HZ.o).mono (belA _)) (fun hp=>HvbO.o hp _ (fun g hg=>(HO.o.own.lt g hg).1)) HG.o HW.o HK.o)
    have HBZ:=ai (show Below X.heap.size X z1 from(bT (bT HB.o HZ.o) (belA _)).grown HG.o (by have:=HB.o.size;have:=HZ.o.size;simp;omega) (fun j hj=>(HO.o.own.lt j hj).1))
    have HMN:=ai (show Mg cmpR ra.rows rb.rows ((outs ++ [vb]).map VL.l) i (k+1)from by rw [List.map_append,List.map_cons,List.map_nil,←HvbR.o];exact HM.o.right isCmp_row HSA.o HSB.o (by rw [rows_len'];exact hkb) (fun hi=>absurd (by rwa [rows_len']at hi) HIA.o))
    go_roundw
    case rel=>exact⟨i,k+1,outs ++ [vb],rfl,by go_num,HOV,HMN,HBZ⟩
    case measure=>simp [intOf];omega
   ·have hkbi: ¬(k:Int) <rb.l.length:=by omega
    obtain⟨r,h1,h2,h3⟩:=HO.o.rl;subst h1;have HRI:=ai h3;have HRL:=ai h2;have HEND:=ai (show i=ra.l.length∧k=rb.l.length from by omega)
    clear h2 h3;go_wp2;go_ret
    have hm:=HM.o;rw [HEND.o.1,HEND.o.2,←rows_len',←rows_len']at hm;have hp:r.rows.Perm (l.map VL.l):=by unfold RL.rows;rw [HRL.o];exact hm.done.trans HPP.o
    exact⟨r,rfl,HRI.o,hp,by unfold RL.rows;rw [HRL.o];exact hm.srt,rows_le (x:=⟨⟨some ⟨b,o,none⟩,cap⟩,l⟩) hp HR.o,bT HBX.o HB.o⟩
theorem canon_any (x:RL) (w:World) (hx:x.In w) (hr: ∀v∈x.l,v.l.length≤1000) (hn:x.l.length≤1000) :Calls Tryz.prog 80 #[.slice x.h.ao x.l.length x.h.cap] w (CanPost x w):=by
 have key: ∀(n:Nat) (x:RL) (w:World),x.l.length≤n→x.In w→(∀v∈x.l,v.l.length≤1000)→x.l.length≤1000→Calls Tryz.prog 80 #[.slice x.h.ao x.l.length x.h.cap] w (CanPost x w):=by
  intro n
  induction n with
  | zero=>exact fun x w h1 h2 h3 _=>canon_few x w h2 h3 (by omega)
  | succ n ih=>
   intro x w h1 h2 h3 h4;by_cases h5:x.l.length<2
   ·exact canon_few x w h2 h3 h5
   ·exact canon_many x w h2 h3 (by omega) h4 (fun y W hy hyr hlt=>ih y W (by omega) hy hyr (by omega))
 exact key _ x w (Nat.le_refl _) hx hr hn
end Go.Proofs.YtiijaaohphokcaaGreatDoor

/- conjunctive.(*solver).fits: the region that binds a variable. -/
import Derived.Test.YtiijaaohphokcaaGreatDoorG32
import Derived.Test.YtiijaaohphokcaaGreatDoorG08
import Derived.Test.YtiijaaohphokcaaGreatDoorG09
import Derived.Deep.DeepCutAuto
import Derived.StillTailTactics
set_option maxRecDepth 100000
set_option maxHeartbeats 16000000
namespace Go.Proofs.YtiijaaohphokcaaGreatDoor
open Go.RowKit
theorem updN {L:Nat→Bool} {i j:Nat} (h:j≠i) :upd L i j=L j:=by unfold upd;rw [if_neg h]
theorem updE {L:Nat→Bool} {i:Nat} : upd L i i=true:=by unfold upd;rw [if_pos rfl]
theorem index_ptr3 {P:Program} {t e:TypeId} (ht:P.underlying t=some (.slice e)) (hs: (P.info? e).map (·.size) =some 3) (g n c y:Nat) (hy:y<n) : ∀W,(Instr.indexAt t (.slice (some ⟨g,0,none⟩) n c) (.int .i64 (y:Nat))).run P W = .ok (.pointer (some ⟨g,y*3,none⟩)) W:=by
 intro W;obtain⟨j,hj,hsz⟩:=Option.map_eq_some_iff.1 hs;have he:P.elem t=e:=by simp [Program.elem,ht]
 rw [run_indexAt_slice _ _ _ _ _ _ _ (by rw [he];exact ht),he,if_pos ⟨by omega,by omega⟩]
 simp [sizeOf,typeInfo,hj,hsz,Addr.add_lit]
def FB (W:World) (gb gv xv:Nat) (sk sn:Int) (st:ByteArray) (b c:Bool) (x:World) :Prop:=x= (if c=true then ((((W.setCell ⟨gb,xv,none⟩ (.bool true)).setCell ⟨gv,xv*3,none⟩ (.int .i64 sk)).setCell ⟨gv,xv*3+1,none⟩ (.int .i64 sn)).setCell ⟨gv,xv*3+2,none⟩ (.string st)) else if b=true then W.setCell ⟨gb,xv,none⟩ (.bool true) else W)
theorem FB.cell {W:World} {gb gv xv:Nat} {sk sn:Int} {st:ByteArray} {b c:Bool} {x:World} (h:FB W gb gv xv sk sn st b c x) {d o:Nat} {v:Value} (h1:d≠gb) (h2:d≠gv) (hv:W.cell? ⟨d,o,none⟩ =some v) :x.cell? ⟨d,o,none⟩ =some v:=by
 unfold FB at h
 subst h
 split
 ·rw [cell_set_far h2,cell_set_far h2,cell_set_far h2,cell_set_far h1];exact hv
 ·split
  ·rw [cell_set_far h1];exact hv
  ·exact hv
theorem fits_reg5 {gs gb gv nv xv xb pk m:Nat} {r:VL} {sk sn:Int} {st:ByteArray} {W:World} {b0 o0 o1 o2:Value} (hxv:xv<nv) (n1:gs≠gb) (n2:gs≠gv) (n3:gb≠gv) (n4:xb≠gb) (n5:xb≠gv) (n6:r.h.b≠gb) (n7:r.h.b≠gv)
  (hixr: ∀U,(Instr.indexAt 96 (.slice r.h.ao r.l.length r.h.cap) (.int .i64 (m:Nat))).run Tryz.prog U = .ok (.pointer (some ⟨r.h.b,pk,none⟩)) U)
  (c0:W.cell? ⟨xb,0,none⟩ =some (.int .i64 (xv:Nat))) (k0:W.cell? ⟨r.h.b,pk,none⟩ =some (.int .i64 sk)) (k1:W.cell? ⟨r.h.b,pk+1,none⟩ =some (.int .i64 sn)) (k2:W.cell? ⟨r.h.b,pk+2,none⟩ =some (.string st))
  (m4:W.cell? ⟨gs,4,none⟩ =some (.slice (some ⟨gb,0,none⟩) nv nv)) (m5:W.cell? ⟨gs,5,none⟩ =some (.slice (some ⟨gv,0,none⟩) nv nv)) (bc:W.cell? ⟨gb,xv,none⟩ =some b0) (bf: ∀j,W.frozen? ⟨gb,j,none⟩ =false)
  (v0:W.cell? ⟨gv,xv*3,none⟩ =some o0) (v1:W.cell? ⟨gv,xv*3+1,none⟩ =some o1) (v2:W.cell? ⟨gv,xv*3+2,none⟩ =some o2) (vf: ∀j,W.frozen? ⟨gv,j,none⟩ =false) {Q:Exit→Act→World→Prop} {c:Code} {u1 u3 u4 u5 u6 u7 u8 u11 u12 u13 u14 u15 u16 u17 u18 u19 u20 u21 u22 u23 u24 u25 u26 u27 u28 u29 u30 u31 u32 u33 u34 u35 u36 u37 u38 u39 u40 u41 u42 u43 u44 u45 u46 u47 u48 u49 u50 u51 u52 u53 u54 u55 u56 u57 u58 u59 u60 u61 u62 u63 u64 u65 u66 u67 u68 u69 u70 u71 u72 u73 u74 u75 u76 u77 u78 u79:Value} (hc:c=codeIn [1,1,0,1,4,5,1,1,0,4,1,4,1,3,1,3,0] (Tryz.f94.body.getD .skip)) (hend: ∀x,FB W.drew gb gv xv sk sn st true true x→Q .normal { tmps:=((.pointer (some ⟨gs,0,none⟩)) :: (u1) :: (.slice r.h.ao r.l.length r.h.cap) :: (u3) :: (u4) :: (u5) :: (u6) :: (u7) :: (u8) :: (.int .i64 (m:Nat)) :: (.pointer (some ⟨xb,0,none⟩)) :: (u11) :: (u12) :: (u13) :: (u14) :: (u15) :: (u16) :: (u17) :: (.pointer (some ⟨gs,0,none⟩)) :: (.pointer (some ⟨gs,0,none⟩)) :: (.pointer (some ⟨gs,4,none⟩)) :: (.slice (some ⟨gb,0,none⟩) nv nv) :: (.pointer (some ⟨xb,0,none⟩)) :: (.int .i64 (xv:Nat)) :: (.pointer (some ⟨gs,0,none⟩)) :: (.pointer (some ⟨gs,0,none⟩)) :: (.pointer (some ⟨gs,5,none⟩)) :: (.slice (some ⟨gv,0,none⟩) nv nv) :: (.pointer (some ⟨xb,0,none⟩)) :: (.int .i64 (xv:Nat)) :: (.slice r.h.ao r.l.length r.h.cap) :: (.int .i64 (m:Nat)) :: (.pointer (some ⟨r.h.b,pk,none⟩)) :: (.agg #[.int .i64 sk,.int .i64 sn,.string st]) :: (.pointer (some ⟨gb,xv,none⟩)) :: (.pointer (some ⟨gv,xv*3,none⟩)) :: (u36) :: (u37) :: (u38) :: (u39) :: (u40) :: (u41) :: (u42) :: (u43) :: (u44) :: (u45) :: (u46) :: (u47) :: (u48) :: (u49) :: (u50) :: (u51) :: (u52) :: (u53) :: (u54) :: (u55) :: (u56) :: (u57) :: (u58) :: (u59) :: (u60) :: (u61) :: (u62) :: (u63) :: (u64) :: (u65) :: (u66) :: (u67) :: (u68) :: (u69) :: (u70) :: (u71) :: (u72) :: (u73) :: (u74) :: (u75) :: (u76) :: (u77) :: (u78) :: (u79) :: []).toArray,defers:= [] } x) :Code.wp Tryz.prog c Q { tmps:=((.pointer (some ⟨gs,0,none⟩)) :: (u1) :: (.slice r.h.ao r.l.length r.h.cap) :: (u3) :: (u4) :: (u5) :: (u6) :: (u7) :: (u8) :: (.int .i64 (m:Nat)) :: (.pointer (some ⟨xb,0,none⟩)) :: (u11) :: (u12) :: (u13) :: (u14) :: (u15) :: (u16) :: (u17) :: (u18) :: (u19) :: (u20) :: (u21) :: (u22) :: (u23) :: (u24) :: (u25) :: (u26) :: (u27) :: (u28) :: (u29) :: (u30) :: (u31) :: (u32) :: (u33) :: (u34) :: (u35) :: (u36) :: (u37) :: (u38) :: (u39) :: (u40) :: (u41) :: (u42) :: (u43) :: (u44) :: (u45) :: (u46) :: (u47) :: (u48) :: (u49) :: (u50) :: (u51) :: (u52) :: (u53) :: (u54) :: (u55) :: (u56) :: (u57) :: (u58) :: (u59) :: (u60) :: (u61) :: (u62) :: (u63) :: (u64) :: (u65) :: (u66) :: (u67) :: (u68) :: (u69) :: (u70) :: (u71) :: (u72) :: (u73) :: (u74) :: (u75) :: (u76) :: (u77) :: (u78) :: (u79) :: []).toArray,defers:= [] } W:=by
 subst hc;conv=>enter [2];whnf
 refine wp_region_st (by kernel_rfl) (by kernel_rfl) 20 (by kernel_rfl) (fun s:Nat→Value=>({ tmps:=((.pointer (some ⟨gs,0,none⟩)) :: (u1) :: (.slice r.h.ao r.l.length r.h.cap) :: (u3) :: (u4) :: (u5) :: (u6) :: (u7) :: (u8) :: (.int .i64 (m:Nat)) :: (.pointer (some ⟨xb,0,none⟩)) :: (u11) :: (u12) :: (u13) :: (u14) :: (u15) :: (u16) :: (u17) :: (s 18) :: (s 19) :: (s 20) :: (s 21) :: (s 22) :: (s 23) :: (s 24) :: (s 25) :: (s 26) :: (s 27) :: (s 28) :: (s 29) :: (s 30) :: (s 31) :: (s 32) :: (s 33) :: (s 34) :: (s 35) :: (u36) :: (u37) :: (u38) :: (u39) :: (u40) :: (u41) :: (u42) :: (u43) :: (u44) :: (u45) :: (u46) :: (u47) :: (u48) :: (u49) :: (u50) :: (u51) :: (u52) :: (u53) :: (u54) :: (u55) :: (u56) :: (u57) :: (u58) :: (u59) :: (u60) :: (u61) :: (u62) :: (u63) :: (u64) :: (u65) :: (u66) :: (u67) :: (u68) :: (u69) :: (u70) :: (u71) :: (u72) :: (u73) :: (u74) :: (u75) :: (u76) :: (u77) :: (u78) :: (u79) :: []).toArray,defers:= [] } : Act)) (fun k=>if k=18 then u18 else if k=19 then u19 else if k=20 then u20 else if k=21 then u21 else if k=22 then u22 else if k=23 then u23 else if k=24 then u24 else if k=25 then u25 else if k=26 then u26 else if k=27 then u27 else if k=28 then u28 else if k=29 then u29 else if k=30 then u30 else if k=31 then u31 else if k=32 then u32 else if k=33 then u33 else if k=34 then u34 else if k=35 then u35 else undef) rfl (fun i=>([18,19,20,21,22,23,24,25,26,27,28,29,30,31,32,33,34,0,35,0] :List Nat).getD i 0) (fun i=>([true,true,true,true,true,true,true,true,true,true,true,true,true,true,true,true,true,false,true,false] :List Bool).getD i false) ?inj (fun i=>([.pointer (some ⟨gs,0,none⟩),.pointer (some ⟨gs,0,none⟩),.pointer (some ⟨gs,4,none⟩),.slice (some ⟨gb,0,none⟩) nv nv,.pointer (some ⟨xb,0,none⟩),.int .i64 (xv:Nat),.pointer (some ⟨gs,0,none⟩),.pointer (some ⟨gs,0,none⟩),.pointer (some ⟨gs,5,none⟩),.slice (some ⟨gv,0,none⟩) nv nv,.pointer (some ⟨xb,0,none⟩),.int .i64 (xv:Nat),.slice r.h.ao r.l.length r.h.cap,.int .i64 (m:Nat),.pointer (some ⟨r.h.b,pk,none⟩),.agg #[.int .i64 sk,.int .i64 sn,.string st],.pointer (some ⟨gb,xv,none⟩),undef,.pointer (some ⟨gv,xv*3,none⟩),undef] :List Value).getD i undef) (fun L x=>FB W.drew gb gv xv sk sn st (L 17) (L 19) x) rfl ?step ?fin
 case inj=>
  intro i j hi hj hqi hqj h;have hI:i=0∨i=1∨i=2∨i=3∨i=4∨i=5∨i=6∨i=7∨i=8∨i=9∨i=10∨i=11∨i=12∨i=13∨i=14∨i=15∨i=16∨i=17∨i=18∨i=19:=by omega
  have hJ:j=0∨j=1∨j=2∨j=3∨j=4∨j=5∨j=6∨j=7∨j=8∨j=9∨j=10∨j=11∨j=12∨j=13∨j=14∨j=15∨j=16∨j=17∨j=18∨j=19:=by omega
  rcases hI with rfl|rfl|rfl|rfl|rfl|rfl|rfl|rfl|rfl|rfl|rfl|rfl|rfl|rfl|rfl|rfl|rfl|rfl|rfl|rfl<;>rcases hJ with rfl|rfl|rfl|rfl|rfl|rfl|rfl|rfl|rfl|rfl|rfl|rfl|rfl|rfl|rfl|rfl|rfl|rfl|rfl|rfl<;>first|rfl| (exact absurd h (by decide)) | (exact absurd hqi (by decide)) | (exact absurd hqj (by decide))
 case fin=>
  intro s L x hL hv hst;have z0:s 18 = .pointer (some ⟨gs,0,none⟩):=hv 0 (by decide) (by decide)
  have z1:s 19 = .pointer (some ⟨gs,0,none⟩):=hv 1 (by decide) (by decide)
  have z2:s 20 = .pointer (some ⟨gs,4,none⟩):=hv 2 (by decide) (by decide)
  have z3:s 21 = .slice (some ⟨gb,0,none⟩) nv nv:=hv 3 (by decide) (by decide)
  have z4:s 22 = .pointer (some ⟨xb,0,none⟩):=hv 4 (by decide) (by decide)
  have z5:s 23 = .int .i64 (xv:Nat):=hv 5 (by decide) (by decide)
  have z6:s 24 = .pointer (some ⟨gs,0,none⟩):=hv 6 (by decide) (by decide)
  have z7:s 25 = .pointer (some ⟨gs,0,none⟩):=hv 7 (by decide) (by decide)
  have z8:s 26 = .pointer (some ⟨gs,5,none⟩):=hv 8 (by decide) (by decide)
  have z9:s 27 = .slice (some ⟨gv,0,none⟩) nv nv:=hv 9 (by decide) (by decide)
  have z10:s 28 = .pointer (some ⟨xb,0,none⟩):=hv 10 (by decide) (by decide)
  have z11:s 29 = .int .i64 (xv:Nat):=hv 11 (by decide) (by decide)
  have z12:s 30 = .slice r.h.ao r.l.length r.h.cap:=hv 12 (by decide) (by decide)
  have z13:s 31 = .int .i64 (m:Nat):=hv 13 (by decide) (by decide)
  have z14:s 32 = .pointer (some ⟨r.h.b,pk,none⟩):=hv 14 (by decide) (by decide)
  have z15:s 33 = .agg #[.int .i64 sk,.int .i64 sn,.string st]:=hv 15 (by decide) (by decide)
  have z16:s 34 = .pointer (some ⟨gb,xv,none⟩):=hv 16 (by decide) (by decide)
  have z18:s 35 = .pointer (some ⟨gv,xv*3,none⟩):=hv 18 (by decide) (by decide)
  clear hv;rw [hL 17 (by omega),hL 19 (by omega)]at hst
  have h:=hend x hst
  first|exact h| (simp only [z0,z1,z2,z3,z4,z5,z6,z7,z8,z9,z10,z11,z12,z13,z14,z15,z16,z18];exact h)
 case step=>
  intro i o s L x ho hL he hC hv hst;have hi:i<20:=(Array.getElem?_eq_some_iff.1 ho).1;have HST:=ai hst;have hcase:i=0∨i=1∨i=2∨i=3∨i=4∨i=5∨i=6∨i=7∨i=8∨i=9∨i=10∨i=11∨i=12∨i=13∨i=14∨i=15∨i=16∨i=17∨i=18∨i=19:=by omega
  rcases hcase with rfl|rfl|rfl|rfl|rfl|rfl|rfl|rfl|rfl|rfl|rfl|rfl|rfl|rfl|rfl|rfl|rfl|rfl|rfl|rfl
  ·injection ho with ho
   subst ho;clear he hC hv hst;refine opwp_K (fun K2 hK2=> ?_)
   go_simp
   exact hK2 _ _ ⟨.inl ⟨rfl,by first|rfl| (simp [List.getD];done)⟩,by show FB W.drew gb gv xv sk sn st (upd L 0 17) (upd L 0 19) _;rw [updN (by decide),updN (by decide)];exact HST.o⟩
  ·injection ho with ho
   subst ho;have z0:s 18 = .pointer (some ⟨gs,0,none⟩):=hv 0 (by decide) (he ⟨0,.data⟩ (by simp) rfl)
   clear he hC hv hst;refine opwp_K (fun K2 hK2=> ?_)
   go_simp
   exact hK2 _ _ ⟨.inl ⟨rfl,by first|rfl| (simp [z0];done)⟩,by show FB W.drew gb gv xv sk sn st (upd L 1 17) (upd L 1 19) _;rw [updN (by decide),updN (by decide)];exact HST.o⟩
  ·injection ho with ho
   subst ho;have z1:s 19 = .pointer (some ⟨gs,0,none⟩):=hv 1 (by decide) (he ⟨1,.data⟩ (by simp) rfl)
   clear he hC hv hst;refine opwp_K (fun K2 hK2=> ?_)
   go_simp
   exact hK2 _ _ ⟨.inl ⟨rfl,by first|rfl| (simp [z1];done)⟩,by show FB W.drew gb gv xv sk sn st (upd L 2 17) (upd L 2 19) _;rw [updN (by decide),updN (by decide)];exact HST.o⟩
  ·injection ho with ho
   subst ho;have z2:s 20 = .pointer (some ⟨gs,4,none⟩):=hv 2 (by decide) (he ⟨2,.data⟩ (by simp) rfl)
   clear he hC hv hst;have h0:=HST.o.cell n1 n2 m4;refine opwp_K (fun K2 hK2=> ?_)
   go_simp
   exact hK2 _ _ ⟨.inl ⟨rfl,by first|rfl| (simp [z2];done)⟩,by show FB W.drew gb gv xv sk sn st (upd L 3 17) (upd L 3 19) _;rw [updN (by decide),updN (by decide)];exact HST.o⟩
  ·injection ho with ho
   subst ho;clear he hC hv hst;refine opwp_K (fun K2 hK2=> ?_)
   go_simp
   exact hK2 _ _ ⟨.inl ⟨rfl,by first|rfl| (simp [List.getD];done)⟩,by show FB W.drew gb gv xv sk sn st (upd L 4 17) (upd L 4 19) _;rw [updN (by decide),updN (by decide)];exact HST.o⟩
  ·injection ho with ho
   subst ho;have z4:s 22 = .pointer (some ⟨xb,0,none⟩):=hv 4 (by decide) (he ⟨4,.data⟩ (by simp) rfl)
   clear he hC hv hst;have h0:=HST.o.cell n4 n5 c0;refine opwp_K (fun K2 hK2=> ?_)
   go_simp
   exact hK2 _ _ ⟨.inl ⟨rfl,by first|rfl| (simp [z4];done)⟩,by show FB W.drew gb gv xv sk sn st (upd L 5 17) (upd L 5 19) _;rw [updN (by decide),updN (by decide)];exact HST.o⟩
  ·injection ho with ho
   subst ho;clear he hC hv hst;refine opwp_K (fun K2 hK2=> ?_)
   go_simp
   exact hK2 _ _ ⟨.inl ⟨rfl,by first|rfl| (simp [List.getD];done)⟩,by show FB W.drew gb gv xv sk sn st (upd L 6 17) (upd L 6 19) _;rw [updN (by decide),updN (by decide)];exact HST.o⟩
  ·injection ho with ho
   subst ho;have z6:s 24 = .pointer (some ⟨gs,0,none⟩):=hv 6 (by decide) (he ⟨6,.data⟩ (by simp) rfl)
   clear he hC hv hst;refine opwp_K (fun K2 hK2=> ?_)
   go_simp
   exact hK2 _ _ ⟨.inl ⟨rfl,by first|rfl| (simp [z6];done)⟩,by show FB W.drew gb gv xv sk sn st (upd L 7 17) (upd L 7 19) _;rw [updN (by decide),updN (by decide)];exact HST.o⟩
  ·injection ho with ho
   subst ho;have z7:s 25 = .pointer (some ⟨gs,0,none⟩):=hv 7 (by decide) (he ⟨7,.data⟩ (by simp) rfl)
   clear he hC hv hst;refine opwp_K (fun K2 hK2=> ?_)
   go_simp
   exact hK2 _ _ ⟨.inl ⟨rfl,by first|rfl| (simp [z7];done)⟩,by show FB W.drew gb gv xv sk sn st (upd L 8 17) (upd L 8 19) _;rw [updN (by decide),updN (by decide)];exact HST.o⟩
  ·injection ho with ho
   subst ho;have z8:s 26 = .pointer (some ⟨gs,5,none⟩):=hv 8 (by decide) (he ⟨8,.data⟩ (by simp) rfl)
   clear he hC hv hst;have h0:=HST.o.cell n1 n2 m5;refine opwp_K (fun K2 hK2=> ?_)
   go_simp
   exact hK2 _ _ ⟨.inl ⟨rfl,by first|rfl| (simp [z8];done)⟩,by show FB W.drew gb gv xv sk sn st (upd L 9 17) (upd L 9 19) _;rw [updN (by decide),updN (by decide)];exact HST.o⟩
  ·injection ho with ho
   subst ho;clear he hC hv hst;refine opwp_K (fun K2 hK2=> ?_)
   go_simp
   exact hK2 _ _ ⟨.inl ⟨rfl,by first|rfl| (simp [List.getD];done)⟩,by show FB W.drew gb gv xv sk sn st (upd L 10 17) (upd L 10 19) _;rw [updN (by decide),updN (by decide)];exact HST.o⟩
  ·injection ho with ho
   subst ho;have z10:s 28 = .pointer (some ⟨xb,0,none⟩):=hv 10 (by decide) (he ⟨10,.data⟩ (by simp) rfl)
   clear he hC hv hst;have h0:=HST.o.cell n4 n5 c0;refine opwp_K (fun K2 hK2=> ?_)
   go_simp
   exact hK2 _ _ ⟨.inl ⟨rfl,by first|rfl| (simp [z10];done)⟩,by show FB W.drew gb gv xv sk sn st (upd L 11 17) (upd L 11 19) _;rw [updN (by decide),updN (by decide)];exact HST.o⟩
  ·injection ho with ho
   subst ho;clear he hC hv hst;refine opwp_K (fun K2 hK2=> ?_)
   go_simp
   exact hK2 _ _ ⟨.inl ⟨rfl,by first|rfl| (simp [List.getD];done)⟩,by show FB W.drew gb gv xv sk sn st (upd L 12 17) (upd L 12 19) _;rw [updN (by decide),updN (by decide)];exact HST.o⟩
  ·injection ho with ho
   subst ho;clear he hC hv hst;refine opwp_K (fun K2 hK2=> ?_)
   go_simp
   exact hK2 _ _ ⟨.inl ⟨rfl,by first|rfl| (simp [List.getD];done)⟩,by show FB W.drew gb gv xv sk sn st (upd L 13 17) (upd L 13 19) _;rw [updN (by decide),updN (by decide)];exact HST.o⟩
  ·injection ho with ho
   subst ho;have z12:s 30 = .slice r.h.ao r.l.length r.h.cap:=hv 12 (by decide) (he ⟨12,.data⟩ (by simp) rfl)
   have z13:s 31 = .int .i64 (m:Nat):=hv 13 (by decide) (he ⟨13,.data⟩ (by simp) rfl)
   clear he hC hv hst;refine opwp_K (fun K2 hK2=> ?_)
   go_simp
   exact hK2 _ _ ⟨.inl ⟨rfl,by first|rfl| (simp [z12,z13];done)⟩,by show FB W.drew gb gv xv sk sn st (upd L 14 17) (upd L 14 19) _;rw [updN (by decide),updN (by decide)];exact HST.o⟩
  ·injection ho with ho
   subst ho;have z14:s 32 = .pointer (some ⟨r.h.b,pk,none⟩):=hv 14 (by decide) (he ⟨14,.data⟩ (by simp) rfl)
   clear he hC hv hst;have h0:=HST.o.cell n6 n7 k0;have h1:=HST.o.cell n6 n7 k1;have h2:=HST.o.cell n6 n7 k2;refine opwp_K (fun K2 hK2=> ?_)
   go_simp
   exact hK2 _ _ ⟨.inl ⟨rfl,by first|rfl| (simp [z14];done)⟩,by show FB W.drew gb gv xv sk sn st (upd L 15 17) (upd L 15 19) _;rw [updN (by decide),updN (by decide)];exact HST.o⟩
  ·injection ho with ho
   subst ho;have z3:s 21 = .slice (some ⟨gb,0,none⟩) nv nv:=hv 3 (by decide) (he ⟨3,.data⟩ (by simp) rfl)
   have z5:s 23 = .int .i64 (xv:Nat):=hv 5 (by decide) (he ⟨5,.data⟩ (by simp) rfl)
   clear he hC hv hst;have hixb:=index_ptr Tryz.underlying102 szbool2 gb nv nv xv hxv;refine opwp_K (fun K2 hK2=> ?_)
   go_simp
   exact hK2 _ _ ⟨.inl ⟨rfl,by first|rfl| (simp [z3,z5];done)⟩,by show FB W.drew gb gv xv sk sn st (upd L 16 17) (upd L 16 19) _;rw [updN (by decide),updN (by decide)];exact HST.o⟩
  ·injection ho with ho
   subst ho;have z16:s 34 = .pointer (some ⟨gb,xv,none⟩):=hv 16 (by decide) (he ⟨16,.data⟩ (by simp) rfl)
   have hL19:L 19=false:=by
    cases h:L 19 with
    | false=>rfl
    | true=>have:=hC 19 _ rfl h ⟨17,.chain⟩ (by simp) rfl;rw [hL]at this;cases this
   clear he hC hv hst;have hx:=HST.o;rw [hL,hL19]at hx;have hx:x=W.drew:=hx;subst hx;have bc2:W.drew.cell? ⟨gb,xv,none⟩ =some b0:=bc;have bf2:W.drew.frozen? ⟨gb,xv,none⟩ =false:=bf xv;refine opwp_K (fun K2 hK2=> ?_)
   go_simp
   exact hK2 _ _ ⟨.inr ⟨rfl,by first|rfl| (simp [z16];done)⟩,by show FB W.drew gb gv xv sk sn st (upd L 17 17) (upd L 17 19) _;rw [updE,updN (by decide),hL19];rfl⟩
  ·injection ho with ho
   subst ho;have z9:s 27 = .slice (some ⟨gv,0,none⟩) nv nv:=hv 9 (by decide) (he ⟨9,.data⟩ (by simp) rfl)
   have z11:s 29 = .int .i64 (xv:Nat):=hv 11 (by decide) (he ⟨11,.data⟩ (by simp) rfl)
   clear he hC hv hst;have hixv:=index_ptr3 Tryz.underlying96 szv3 gv nv nv xv hxv;refine opwp_K (fun K2 hK2=> ?_)
   go_simp
   exact hK2 _ _ ⟨.inl ⟨rfl,by first|rfl| (simp [z9,z11];done)⟩,by show FB W.drew gb gv xv sk sn st (upd L 18 17) (upd L 18 19) _;rw [updN (by decide),updN (by decide)];exact HST.o⟩
  ·injection ho with ho
   subst ho;have z18:s 35 = .pointer (some ⟨gv,xv*3,none⟩):=hv 18 (by decide) (he ⟨18,.data⟩ (by simp) rfl)
   have z15:s 33 = .agg #[.int .i64 sk,.int .i64 sn,.string st]:=hv 15 (by decide) (he ⟨15,.data⟩ (by simp) rfl)
   have hL17:L 17=true:=he ⟨17,.chain⟩ (by simp) rfl
   clear he hC hv hst;have hx:=HST.o;rw [hL,hL17]at hx;have hx:x=W.drew.setCell ⟨gb,xv,none⟩ (.bool true):=hx;have e0:x.cell? ⟨gv,xv*3,none⟩ =some o0:=by rw [hx,cell_set_far (fun e=>n3 e.symm)];exact v0
   have e1:x.cell? ⟨gv,xv*3+1,none⟩ =some o1:=by rw [hx,cell_set_far (fun e=>n3 e.symm)];exact v1
   have e2:x.cell? ⟨gv,xv*3+2,none⟩ =some o2:=by rw [hx,cell_set_far (fun e=>n3 e.symm)];exact v2
   have f0:x.frozen? ⟨gv,xv*3,none⟩ =false:=by rw [hx,frozen_set];exact vf _
   have f1:x.frozen? ⟨gv,xv*3+1,none⟩ =false:=by rw [hx,frozen_set];exact vf _
   have f2:x.frozen? ⟨gv,xv*3+2,none⟩ =false:=by rw [hx,frozen_set];exact vf _
   have HX:=ai hx;clear hx;refine opwp_K (fun K2 hK2=> ?_)
   go_simp
   exact hK2 _ _ ⟨.inr ⟨rfl,by first|rfl| (simp [z18,z15];done)⟩,by show FB W.drew gb gv xv sk sn st (upd L 19 17) (upd L 19 19) _;rw [updE,updN (by decide),hL17,HX.o];rfl⟩
end Go.Proofs.YtiijaaohphokcaaGreatDoor
/- conjunctive.(*solver).fits. -/
namespace Go.Proofs.YtiijaaohphokcaaGreatDoor
open Go.RowKit
theorem sameB_eq (a b:V) :sameB a b=true↔a=b:=sameB_iff a b
theorem fitsL_app: ∀ {l1 l2:List (Tm V)} {r1 r2:List V} {σ:Vb V},l1.length=r1.length→fitsL σ (l1 ++ l2) (r1 ++ r2) = (fitsL σ l1 r1).bind fun s=>fitsL s l2 r2
 | [],l2,[],r2,σ,_=>by simp [fitsL]
 | t :: l1,l2,u :: r1,r2,σ,h=>by
  show(bindT σ t u).bind (fun s=>fitsL s (l1 ++ l2) (r1 ++ r2)) = ((bindT σ t u).bind fun s=>fitsL s l1 r1).bind fun s=>fitsL s l2 r2
  cases bindT σ t u with
  | none=>rfl
  | some s=>exact fitsL_app (Nat.succ.inj h)
theorem fitsL_step {l:List (Tm V)} {r:List V} {σ σi:Vb V} {m:Nat} {t:Tm V} {u:V} (hf:fitsL σ (l.take m) (r.take m) =some σi) (ht:l[m]? = some t) (hu:r[m]? = some u) :fitsL σ (l.take (m+1)) (r.take (m+1)) =bindT σi t u:=by
 obtain⟨h1,e1⟩:=List.getElem?_eq_some_iff.1 ht;obtain⟨h2,e2⟩:=List.getElem?_eq_some_iff.1 hu;rw [List.take_succ_eq_append_getElem h1,List.take_succ_eq_append_getElem h2,fitsL_app (by rw [List.length_take,List.length_take];omega),hf,e1,e2]
 show(bindT σi t u).bind (fun s=>fitsL s [] []) =_
 cases bindT σi t u with
 | none=>rfl
 | some s=>simp [fitsL]
theorem fitsL_stop {l:List (Tm V)} {r:List V} {σ:Vb V} {m:Nat} (hl:l.length=r.length) (hf:fitsL σ (l.take m) (r.take m) =none) :fitsL σ l r=none:=by
 have h:fitsL σ (l.take m ++ l.drop m) (r.take m ++ r.drop m) =none:=by
  rw [fitsL_app (by rw [List.length_take,List.length_take,hl]),hf];rfl
 rwa [List.take_append_drop,List.take_append_drop]at h
theorem bindT_c {σ:Vb V} {k u:V} : bindT σ (.c k) u=if sameB k u=true then some σ else none:=by
 simp only [bindT];by_cases h:k=u
 ·rw [if_pos h,if_pos ((sameB_eq _ _).2 h)]
 ·rw [if_neg h,if_neg (fun e=>h ((sameB_eq _ _).1 e))]
theorem bindT_b {σ:Vb V} {n:Nat} {z u:V} (h:σ n=some z) :bindT σ (.v n) u=if sameB z u=true then some σ else none:=by
 unfold bindT
 simp only [h];by_cases e:z=u
 ·rw [if_pos e,if_pos ((sameB_eq _ _).2 e)]
 ·rw [if_neg e,if_neg (fun k=>e ((sameB_eq _ _).1 k))]
theorem bindT_n {σ:Vb V} {n:Nat} {u:V} (h:σ n=none) :bindT σ (.v n) u=some (fun y=>if y=n then some u else σ y):=by
 unfold bindT
 simp only [h]
def FitPost (w0:World) (gs gb gv:Nat) (lv:Value) (q:Cq) (x:Ins) (σ:Vb V) (rows:List VL) (l:TL) (r:VL) (w:World) (e:Ending) (w':World) :Prop:=
 ∃(σ':Vb V) (now:List Nat) (nl:IL) (ok:Bool),e = .returned (.tuple #[.slice nl.h.ao nl.l.length nl.h.cap,.bool ok])∧nl.l=now.map Int.ofNat∧nl.In w'∧(0<nl.l.length→w.heap.size≤nl.h.b)∧
   BackE σ σ' now∧(∀v∈now,v<q.vars)∧EW w0 gs gb gv q x σ' lv rows w'∧fitsL σ l.l r.l= (if ok=true then some σ' else none)∧Kept w w' gs gb gv lv
theorem kept_set {w:World} {gs gb gv b o:Nat} {v lv:Value} (h:b=gs∨b=gb∨b=gv∨lv.ownBlock=some b) :Kept w (w.setCell ⟨b,o,none⟩ v) gs gb gv lv:=Kept.grown (gb_set w b o v) (fun j e=>by injection e with e;rw [←e];exact h)
theorem kept_row {w x y:World} {gs gb gv:Nat} {lv:Value} {row:Option Nat} (hk:Kept w x gs gb gv lv) (hg:x.grownBy y row) (hr: ∀b,row=some b→w.heap.size≤b) :Kept w y gs gb gv lv:=
 ⟨Nat.le_trans hk.1 hg.size,fun b hb h1 h2 h3 h4=>(hg.block b (Nat.lt_of_lt_of_le hb hk.1) (fun e=>by have:=hr b e.symm;omega)).trans (hk.2 b hb h1 h2 h3 h4)⟩
theorem own_far {v:Value} {g:Nat} (h: ∀j,v.ownBlock=some j→j≠g) :v.ownBlock=none∨v.ownBlock≠some g:=.inr (fun e=>h g e rfl)
theorem fits_any (w0:World) (gs gb gv:Nat) (lv:Value) (q:Cq) (x:Ins) (σ:Vb V) (rows:List VL) (l:TL) (r:VL) (w:World) (hM:EW w0 gs gb gv q x σ lv rows w) (hl:Row w0 4 Tm.cells l.h l.l) (hr:Row w0 3 V.cells r.h r.l) (hrw: ∀u∈r.l,u.wf) (hv: ∀n,Tm.v n∈l.l→n<q.vars) (hq:q.vars≤1000) (hll:l.l.length≤1000) (hlr:l.l.length=r.l.length) :
  Calls Tryz.prog 94 #[.pointer (some ⟨gs,0,none⟩),.slice l.h.ao l.l.length l.h.cap,.slice r.h.ao r.l.length r.h.cap] w (FitPost w0 gs gb gv lv q x σ rows l r w):=by
 have hln:=hl.len;have hrn:=hr.len;have HM:=ai hM;have HL:=ai hl;have HR:=ai hr;have HRW:=ai hrw;have HV:=ai hv;have HLR:=ai hlr;obtain⟨i0,hi,hz0,hz1,hz2⟩:=info_parts info_int;have HI:=ai (And.intro hi (And.intro hz0 (And.intro hz1 hz2)));clear hi hz0 hz1 hz2 hM hl hr hrw hv hlr
 go_enter Tryz.func94,Tryz.ntmps94;go_wp2;go_loopw [8,13] (fun nv i wr=>∃(m:Nat) (σi:Vb V) (now:List Nat) (u:Value),u=nv∧m≤l.l.length∧i = .int .i64 m∧Hid (wr.ownsRow w.heap.size 3 1 nv now.length (nats now))∧Hid (fitsL σ (l.l.take m) (r.l.take m) =some σi)∧Hid (BackE σ σi now)∧Hid (now.length≤m)∧Hid (∀v∈now,v<q.vars)∧Hid (EW w0 gs gb gv q x σi lv rows wr)∧Hid (Kept w wr gs gb gv lv)) (fun _ i _=>l.l.length - (intOf i).toNat)
 case atStart=>exact⟨0,σ,[],_,rfl,Nat.zero_le _,rfl,ai (World.ownsRow_nil _ _ _ _),ai (by simp [fitsL]),ai (BackE.refl σ),ai (Nat.le_refl _),ai (fun _ h=>by cases h),HM,ai (Kept.refl _ _ _ _ _)⟩
 case round=>
 obtain⟨m,σi,now,u,rfl,hm,rfl,HO,HF,HBK,HNM,HNV,HMW,HK⟩:=hrel;have HNLEN:=ai (show now.length≤1000 from by have:=HNM.o;omega)
 by_cases hlt:m<l.l.length
 ·have hlti: (m:Int) <l.l.length:=by omega
  have HLW:=ai (HL.o.mono HMW.o.bel);have HRR:=ai (HR.o.mono HMW.o.bel);have hrm:m<r.l.length:=by rw [←HLR.o];exact hlt
  have hixl:=HLW.o.ix hlt Tryz.underlying30 szslot;obtain⟨c0,c1,c2,c3⟩:=tm_at HLW.o hlt;obtain⟨t,ht⟩ : ∃t,l.l[m] =t:=⟨_,rfl⟩;have HTL:=ai (show l.l[m]? = some t from by rw [List.getElem?_eq_getElem hlt,ht])
  rw [ht]at c0 c1 c2 c3;have hixr:=HRR.o.ix hrm Tryz.underlying96 szv3;obtain⟨d0,d1,d2⟩:=val_at HRR.o hrm;obtain⟨s,hs⟩ : ∃s,r.l[m] =s:=⟨_,rfl⟩;have HSK:=ai (show r.l[m]? = some s from by rw [List.getElem?_eq_getElem hrm,hs])
  have HSW:=ai (show s.wf from by rw [←hs];exact HRW.o _ (List.getElem_mem hrm))
  rw [hs]at d0 d1 d2;clear ht hs;have HSTP:=ai (fitsL_step HF.o HTL.o HSK.o);have lk:r.h.b<wr.heap.size:=HRR.o.blk hrm;have lkl:l.h.b<wr.heap.size:=HLW.o.blk hlt;generalize l.h.o+m*4=pl at *;generalize r.h.o+m*3=pk at *;obtain⟨X,hX⟩ : ∃X,wr.alloc (.cells #[.int .i64 t.nr,.int .i64 t.val.kind,.int .i64 t.val.num,.string t.val.text] 83) =X:=⟨_,rfl⟩;have HBX2:=ai (show Below wr.heap.size wr X from by rw [←hX];exact belA _)
  have HX10:=ai (show Box X wr.heap.size #[.int .i64 t.nr,.int .i64 t.val.kind,.int .i64 t.val.num,.string t.val.text] 83 from by rw [←hX];exact Box.new _ _ _)
  have HXW:=ai (HMW.o.call HBX2.o);have HXO:=ai (HO.o.kept (only_below HBX2.o none) (Classical.em _));have HXK:=ai (HK.o.trans (Kept.call (gm:=gs) (gs:=gb) (gu:=gv) (lv:=lv) HBX2.o) (Fresh.refl _ _))
  have x0:=hy_of (HX10.o.cell (j:=0) rfl)
  have x1:=hy_of (HX10.o.cell (j:=1) rfl)
  have x2:=hy_of (HX10.o.cell (j:=2) rfl)
  have x3:=hy_of (HX10.o.cell (j:=3) rfl)
  have hk0:=hy_of (by rw [HBX2.o.cell (p:=⟨r.h.b,pk,none⟩) lk];exact d0:X.cell? ⟨r.h.b,pk,none⟩ =some (.int .i64 s.kind))
  have hk1:=hy_of (by rw [HBX2.o.cell (p:=⟨r.h.b,pk+1,none⟩) lk];exact d1:X.cell? ⟨r.h.b,pk+1,none⟩ =some (.int .i64 s.num))
  have hk2:=hy_of (by rw [HBX2.o.cell (p:=⟨r.h.b,pk+2,none⟩) lk];exact d2:X.cell? ⟨r.h.b,pk+2,none⟩ =some (.string s.text))
  clear d0 d1 d2;have HRET:=ai (fun(Y:World) (hb:Below X.heap.size X Y) (hbar:fitsL σ l.l r.l=none)=>(by
   have ho:=HXO.o.kept (only_below hb none) (Classical.em _);obtain⟨nl,h1,h2,h3,h4⟩:=own_nats ho (fun x hx=>by have:=HNV.o x hx;omega)
   exact⟨nl,h1,h2,h3,h4,HXW.o.call hb,hbar,HXK.o.trans (Kept.call hb) (Fresh.refl _ _)⟩ : ∃nl:IL,u = .slice nl.h.ao nl.l.length nl.h.cap∧nl.l=now.map Int.ofNat∧nl.In Y∧(0<nl.l.length→w.heap.size≤nl.h.b)∧EW w0 gs gb gv q x σi lv rows Y∧fitsL σ l.l r.l=none∧Kept w Y gs gb gv lv))
  have hE:=ai (fun(a:V) W=>vsame_any a s W)
  cases t with
  | c kc=>
   have hnr: (Tm.c kc:Tm V).nr = -1:=rfl;have hvl: (Tm.c kc:Tm V).val=kc:=rfl;rw [hnr]at x0 c0 hX;rw [hvl]at x1 x2 x3 c1 c2 c3 hX;have v0:X.cell? ⟨wr.heap.size,0,none⟩ =some (.int .i64 (-1)):=HX10.o.cell (j:=0) rfl
   have HEC:=ai (hE.o kc);have HSM:=ai (show sameB kc s=true→fitsL σ (l.l.take (m+1)) (r.l.take (m+1)) =some σi from fun h=>by rw [HSTP.o,bindT_c,if_pos h])
   have HBA:=ai (show sameB kc s=false→fitsL σ l.l r.l=none from fun h=>fitsL_stop HLR.o (by rw [HSTP.o,bindT_c,if_neg (by rw [h];decide)]))
   generalize sameB kc s=rb at *;obtain⟨kk,kn,kt⟩:=kc;obtain⟨sk,sn,st⟩:=s
   dsimp only at x1 x2 x3 c1 c2 c3 hX hk0 hk1 hk2 HEC
   clear hnr hE hvl;go_wp2;clear hX c0 c1 c2 c3 hixl v0
   go_region_held3 (fun w'=>Below X.heap.size X w') ((first|exact(Below.refl _ _).drew|exact bT (by assumption) (by assumption))) (first
    | (go_at_call 130;refine(HEC.o _).mono ?_;rintro e Y ⟨rfl,hb⟩))
   have HBY:=ai (show Below X.heap.size X Y by assumption)
   clear hb x0 x1 x2 x3 hk0 hk1 hk2
   cases rb
   ·obtain⟨nl,hu,h1,h2,h3,h4,h5,h6⟩:=HRET.o Y HBY.o (HBA.o rfl)
    subst hu;have HR:=ai (And.intro h1 (And.intro h2 (And.intro h3 (And.intro h4 (And.intro h5 h6)))));clear h1 h2 h3 h4 h5 h6;go_wp2
    go_ret2
    exact⟨σi,now,nl,false,rfl,HR.o.1,HR.o.2.1,HR.o.2.2.1,HBK.o,HNV.o,HR.o.2.2.2.1,HR.o.2.2.2.2.1,HR.o.2.2.2.2.2⟩
   ·have HB2:=ai (HSM.o rfl)
    go_wp2;go_roundw
    case rel=>exact⟨m+1,σi,now,u,rfl,by omega,by go_num,ai (HXO.o.kept (only_below HBY.o none) (Classical.em _)),HB2,HBK,ai (by have:=HNM.o;omega),HNV,ai (HXW.o.call HBY.o),ai (HXK.o.trans (Kept.call HBY.o) (Fresh.refl _ _))⟩
    case measure=>simp [intOf];omega
  | v xv=>
   have hxv:xv<q.vars:=HV.o xv (List.mem_of_getElem? HTL.o);have hnr: (Tm.v xv:Tm V).nr= (xv:Int):=rfl;rw [hnr]at x0 c0 hX;have v0:X.cell? ⟨wr.heap.size,0,none⟩ =some (.int .i64 (xv:Nat)):=HX10.o.cell (j:=0) rfl
   have hnn: ¬(xv:Int) <0:=by omega
   have hixb:=index_ptr Tryz.underlying102 szbool2 gb q.vars q.vars xv hxv;have hixv:=index_ptr3 Tryz.underlying96 szv3 gv q.vars q.vars xv hxv;have m4:=HXW.o.box.cell (j:=4) rfl
   have m4y:=hy_of m4;have m5y:=hy_of (HXW.o.box.cell (j:=5) rfl)
   have gb0:=HXW.o.bnd xv hxv;obtain⟨uv,huv,huw,g0,g1,g2⟩:=HXW.o.val xv hxv;have HUV:=ai huv;generalize (Tm.v xv:Tm V).val=tv at *;clear hnr huv
   cases hsx:σi xv with
   | some z=>
    have hz:uv=z:=by
     rcases HUV.o with h|h<;>rw [hsx]at h
     ·cases h
     ·injection h with h;exact h.symm
    subst hz;rw [hsx]at gb0;have q0:=hy_of g0;have q1:=hy_of g1;have q2:=hy_of g2;have HEC:=ai (hE.o uv);have HSM:=ai (show sameB uv s=true→fitsL σ (l.l.take (m+1)) (r.l.take (m+1)) =some σi from fun h=>by rw [HSTP.o,bindT_b hsx,if_pos h])
    have HBA:=ai (show sameB uv s=false→fitsL σ l.l r.l=none from fun h=>fitsL_stop HLR.o (by rw [HSTP.o,bindT_b hsx,if_neg (by rw [h];decide)]))
    generalize sameB uv s=rb at *;obtain⟨kk,kn,kt⟩:=uv;obtain⟨sk,sn,st⟩:=s
    dsimp only at q0 q1 q2 hk0 hk1 hk2 HEC g0 g1 g2
    have gb0:X.cell? ⟨gb,xv,none⟩ =some (.bool true):=gb0;clear hE hsx huw;go_wp2;clear hX c0 c1 c2 c3 hixl
    go_quiet (fail)
    generalize hX1:X.drewN nq=X1;have HQ1:=ai (show Below X.heap.size X X1 from by rw [←hX1];exact below_drewN (Below.refl _ _) _)
    clear hX1 m4 g0 g1 g2 v0 gb0;go_wp2
    go_region_held3 (fun w'=>Below X.heap.size X w') ((first|exact HQ1.o.drew|exact bT (by assumption) (by assumption))) (first
     | (go_at_call 130;refine(HEC.o _).mono ?_;rintro e Y ⟨rfl,hb⟩))
    have HBY:=ai (show Below X.heap.size X Y by assumption)
    clear hb x0 x1 x2 x3 hk0 hk1 hk2 q0 q1 q2 m4y m5y
    cases rb
    ·obtain⟨nl,hu,h1,h2,h3,h4,h5,h6⟩:=HRET.o Y HBY.o (HBA.o rfl)
     subst hu;have HR:=ai (And.intro h1 (And.intro h2 (And.intro h3 (And.intro h4 (And.intro h5 h6)))));clear h1 h2 h3 h4 h5 h6;go_wp2
     go_ret2
     exact⟨σi,now,nl,false,rfl,HR.o.1,HR.o.2.1,HR.o.2.2.1,HBK.o,HNV.o,HR.o.2.2.2.1,HR.o.2.2.2.2.1,HR.o.2.2.2.2.2⟩
    ·have HB2:=ai (HSM.o rfl)
     go_wp2;go_roundw
     case rel=>exact⟨m+1,σi,now,u,rfl,by omega,by go_num,ai (HXO.o.kept (only_below HBY.o none) (Classical.em _)),HB2,HBK,ai (by have:=HNM.o;omega),HNV,ai (HXW.o.call HBY.o),ai (HXK.o.trans (Kept.call HBY.o) (Fresh.refl _ _))⟩
     case measure=>simp [intOf];omega
   | none=>
    rw [hsx]at gb0;have gb0:X.cell? ⟨gb,xv,none⟩ =some (.bool false):=gb0;have gb0y:=hy_of gb0;have hsx2:=ai hsx;have HB2:=ai (show fitsL σ (l.l.take (m+1)) (r.l.take (m+1)) =some (fun y=>if y=xv then some s else σi y)from by rw [HSTP.o,bindT_n hsx])
    have HNL3:=ai (show now.length≤1000 from HNLEN.o)
    have g0y:=hy_of g0;have g1y:=hy_of g1;have g2y:=hy_of g2;have HRN:=ai (show r.h.b≠gb∧r.h.b≠gv from by have h1:=HR.o.blk hrm;have h2:=HM.o.lo;omega)
    clear hE hsx huw g0 g1 g2;go_wp2;clear hX c0 c1 c2 c3 hixl
    go_quiet (fail)
    generalize hX1:X.drewN nq=X1;have HQ1:=ai (show Below X.heap.size X X1 from by rw [←hX1];exact below_drewN (Below.refl _ _) _)
    clear hX1 m4 v0 gb0;obtain⟨Y,hY⟩ : ∃Y,X1=Y:=⟨_,rfl⟩;have HBY:=ai (show Below X.heap.size X Y from by rw [←hY];exact HQ1.o)
    rw [hY];clear hY HQ1;have HYW:=ai (HXW.o.call HBY.o);have m4:=m4y _ HBY.o;have m5:=m5y _ HBY.o;have v0:=x0 _ HBY.o;have k0:=hk0 _ HBY.o;have k1:=hk1 _ HBY.o;have k2:=hk2 _ HBY.o;have gb0:=gb0y _ HBY.o;have gbf:=HYW.o.bf xv;have HYV:=And.intro (g0y _ HBY.o) (And.intro (g1y _ HBY.o) (g2y _ HBY.o));have HYO:=ai (HXO.o.kept (only_below HBY.o none) (Classical.em _));have HYK:=ai (HXK.o.trans (Kept.call (gm:=gs) (gs:=gb) (gu:=gv) (lv:=lv) HBY.o) (Fresh.refl _ _))
    obtain⟨n0v,n1v,n2v⟩:=HYV;have hlo:=HM.o.lo;have hhi:=HM.o.hi;have hws:=HK.o.1;go_upto_region 5 with fail
    refine fits_reg5 (gs:=gs) (gb:=gb) (gv:=gv) (nv:=q.vars) (xv:=xv) (xb:=wr.heap.size) (pk:=pk) (m:=m) (r:=r) (sk:=s.kind) (sn:=s.num) (st:=s.text) (W:=Y) hxv HYW.o.ne.1 HYW.o.ne.2.1 HYW.o.ne.2.2.1 (by omega) (by omega) HRN.o.1 HRN.o.2 hixr v0 k0 k1 k2 m4 m5 gb0 HYW.o.bf n0v n1v n2v HYW.o.vf ?hc ?hend
    case hc=>rfl
    case hend=>
    intro xz hxz;have hxz:xz= ((((Y.drew.setCell ⟨gb,xv,none⟩ (.bool true)).setCell ⟨gv,xv*3,none⟩ (.int .i64 s.kind)).setCell ⟨gv,xv*3+1,none⟩ (.int .i64 s.num)).setCell ⟨gv,xv*3+2,none⟩ (.string s.text)):=hxz;have HX1:=ai (show EW w0 gs gb gv q x (fun y=>if y=xv then some s else σi y) lv rows xz from by rw [hxz];exact(HYW.o.call (Below.refl _ _).drew).bind hxv HSW.o)
    have HXS:=ai (show xz.heap.size=Y.heap.size from by rw [hxz];simp)
    have hno: ∀j,u.ownBlock=some j→j≠gs∧j≠gb∧j≠gv:=fun j e=>by have:=(HYO.o.lt j e).1;omega
    have HYO3:=ai (show xz.ownsRow w.heap.size 3 1 u now.length (nats now)from by
     rw [hxz];exact((((HYO.o.kept (only_below (Below.refl _ _).drew none) (Classical.em _)).kept (gb_set _ gb _ _) (own_far (fun j e=>(hno j e).2.1))).kept (gb_set _ gv _ _) (own_far (fun j e=>(hno j e).2.2))).kept (gb_set _ gv _ _) (own_far (fun j e=>(hno j e).2.2))).kept (gb_set _ gv _ _) (own_far (fun j e=>(hno j e).2.2)))
    have HXK3:=ai (show Kept w xz gs gb gv lv from by
     rw [hxz];exact((((HYK.o.trans (Kept.call (Below.refl _ _).drew) (Fresh.refl _ _)).trans (kept_set (.inr (.inl rfl))) (Fresh.refl _ _)).trans (kept_set (.inr (.inr (.inl rfl)))) (Fresh.refl _ _)).trans (kept_set (.inr (.inr (.inl rfl)))) (Fresh.refl _ _)).trans (kept_set (.inr (.inr (.inl rfl)))) (Fresh.refl _ _))
    have x10:xz.cell? ⟨wr.heap.size,0,none⟩ =some (.int .i64 (xv:Nat)):=FB.cell (b:=true) (c:=true) hxz (by omega) (by omega) v0
    have HNS:=ai hno;clear hxz v0 k0 k1 k2 m4 m5 gb0 gbf n0v n1v n2v HYW HYO HYK hno x0 x1 x2 x3;clear hk0 hk1 hk2 m4y m5y gb0y g0y g1y g2y HUV HX10;go_wp2_with (at_builtin;refine wpList_append_own _ rfl _ _ 22 rfl w.heap.size 3 i0 (.int .i64 0) 1 8 Tryz.underlying22 HI.o.1 HI.o.2.1 HI.o.2.2.1 HI.o.2.2.2 rfl (by decide) _ _ _ rfl (HYO3.o.alloc _) ⟨xz.heap.size,0,none⟩ 1 1 [.int .i64 (xv:Nat)] rfl rfl (new_cells (l:= [.int .i64 (xv:Nat)])) (by intro a ha;rw [List.mem_singleton.1 ha];rfl) (by have:=HNL3.o;unfold maxLen;omega) (by have:=HNL3.o;omega) (by have:=HX1.o.bel.size;have:=HM.o.bel.size;have:=HXK3.o.1;simp;omega) ?_;intro nv2 Y4 hown4 hgr4 _)
    have HO4:=ai (show Y4.ownsRow w.heap.size 3 1 nv2 (now ++ [xv]).length (nats (now ++ [xv]))from by rw [nats_snoc,List.length_append];exact hown4)
    have HG4:=ai hgr4;clear hown4 hgr4 x10;have hul:=HYO3.o.lt;have hlv:=HM.o.own.lt;have hrs:=HM.o.rin;have HW4:=ai ((HX1.o.call (belA _)).grown HG4.o (fun j e=>by have h1:=(hul j e).1;have h2:=HM.o.bel.size;exact⟨by omega,by omega,by omega,by omega,fun h=>by have:=(hlv j h).2;omega,fun t ht hp=>by have:=((hrs t ht).1.2.2.1 hp).2;omega⟩))
    have HK4:=ai (kept_row (HXK3.o.trans (Kept.call (gm:=gs) (gs:=gb) (gu:=gv) (lv:=lv) (belA _)) (Fresh.refl _ _)) HG4.o (fun b e=>(hul b e).1))
    clear hul hlv hrs;go_roundw
    case rel=>exact⟨m+1,_,now ++ [xv],nv2,rfl,by omega,by go_num,HO4,HB2,ai (HBK.o.bind hsx2.o),ai (by have:=HNM.o;simp;omega),ai (fun v hv=>by rcases List.mem_append.1 hv with h|h;exact HNV.o v h;rw [List.mem_singleton.1 h];exact hxv),HW4,HK4⟩
    case measure=>simp [intOf];omega
 ·have hlti: ¬(m:Int) <l.l.length:=by omega
  have hme:m=l.l.length:=by omega
  obtain⟨nl,hnv,hnl,hnin,hnb⟩:=own_nats HO.o (fun x hx=>by have:=HNV.o x hx;omega)
  subst hnv;have HNL:=ai (And.intro hnl (And.intro hnin hnb));clear hnl hnin hnb;have HF2:=ai (show fitsL σ l.l r.l=some σi from by have h:=HF.o;rwa [hme,List.take_length,HLR.o,List.take_length]at h)
  clear hme;go_wp2
  go_ret2
  exact⟨σi,now,nl,true,rfl,HNL.o.1,HNL.o.2.1,fun hp=>HNL.o.2.2 hp,HBK.o,HNV.o,HMW.o,by rw [if_pos rfl];exact HF2.o,HK.o⟩
end Go.Proofs.YtiijaaohphokcaaGreatDoor

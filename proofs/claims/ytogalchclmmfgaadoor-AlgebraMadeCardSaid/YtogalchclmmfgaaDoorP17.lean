/- A part of the proof of AlgebraMade. -/
import Derived.Test.YtogalchclmmfgaaDoorP16
set_option maxRecDepth 100000
set_option maxHeartbeats 16000000
namespace Go.Proofs.YtogalchclmmfgaaDoor
open Go.RowKit
theorem rres_lit (ts r:IL) (w:World) (hts:ts.In w) (hri:r.In w) (op typ num:Int) (text:ByteArray) (col:Int) (ko:Option Addr) (kl kc:Nat) (hop:1≤op∧op≤28) (hk:kidsOk op r.l.length=true) (hc:op=5→¬(col<0∨(ts.l.length:Int)≤col)) :
  Calls Tryd.prog 107 #[.slice ts.h.ao ts.l.length ts.h.cap,.agg #[.int .i64 op,.int .i64 typ,.int .i64 num,.string text,.int .i64 col,.slice ko kl kc],.slice r.h.ao r.l.length r.h.cap] w
   fun e w'=>e = .returned (.int .i64 (resE ts.l op typ col r.l))∧Below w.heap.size w w':=by
 have hnr:=hri.1.len;have hb0:=belA (w:=w) (.cells #[.int .i64 op,.int .i64 typ,.int .i64 num,.string text,.int .i64 col,.slice ko kl kc] 45)
 have HRI:=ai (hri.mono hb0);have HTS:=ai (hts.mono hb0);have HK:=ai hk;have HC:=ai hc;clear hk hc hb0 hts hri;have hcs:op=1∨op=2∨op=3∨op=4∨op=5∨op=6∨op=7∨op=8∨op=9∨op=10∨op=11∨op=12∨op=13∨op=14∨op=15∨op=16∨op=17∨op=18∨op=19∨op=20∨op=21∨op=22∨op=23∨op=24∨op=25∨op=26∨op=27∨op=28:=by omega
 rcases hcs with rfl|rfl|rfl|rfl|rfl|rfl|rfl|rfl|rfl|rfl|rfl|rfl|rfl|rfl|rfl|rfl|rfl|rfl|rfl|rfl|rfl|rfl|rfl|rfl|rfl|rfl|rfl|rfl
 ·have HR:=ai (show resE ts.l 1 typ col r.l=typ by simp [resE])
  go_enter Tryd.func107,Tryd.ntmps107;go_wp2;go_ret
  exact⟨ret1 HR.o.symm,belA _⟩
 ·have HR:=ai (show resE ts.l 2 typ col r.l=1 by simp [resE])
  go_enter Tryd.func107,Tryd.ntmps107;go_wp2;go_ret
  exact⟨ret1 HR.o.symm,belA _⟩
 ·have HR:=ai (show resE ts.l 3 typ col r.l=2 by simp [resE])
  go_enter Tryd.func107,Tryd.ntmps107;go_wp2;go_ret
  exact⟨ret1 HR.o.symm,belA _⟩
 ·have HR:=ai (show resE ts.l 4 typ col r.l=3 by simp [resE])
  go_enter Tryd.func107,Tryd.ntmps107;go_wp2;go_ret
  exact⟨ret1 HR.o.symm,belA _⟩
 ·have hcc:=HC.o rfl
  obtain⟨c,rfl⟩ : ∃c:Nat,col=c:=⟨col.toNat,by omega⟩
  have hcl:c<ts.l.length:=by omega
  have HR:=ai (show resE ts.l 5 typ c r.l=ts.l[c] by simp [resE,List.getD,hcl])
  have hix:=IL.ix HTS.o hcl;have c0:=int_at HTS.o.1 hcl;have hbk:=HTS.o.1.blk hcl;have hlt:=hcl;clear hcc
  go_enter Tryd.func107,Tryd.ntmps107;go_wp2;go_ret
  exact⟨ret1 HR.o.symm,belA _⟩
 ·have HR:=ai (show resE ts.l 6 typ col r.l=if alla 1 r.l then 1 else 0 by simp [resE])
  obtain⟨b,hb⟩ : ∃b,alla 1 r.l=b:=⟨_,rfl⟩;have HBB:=ai hb;rw [hb]at HR;clear hb
  cases b
  ·go_enter Tryd.func107,Tryd.ntmps107
   go_wp2_with (go_at_call 121;refine(rall_any r 1 _ HRI.o).mono ?_;rintro e w1 ⟨rfl,hb1⟩;rw [HBB.o])
   go_ret
   exact⟨ret1 HR.o.symm,bel1 hb1⟩
  ·go_enter Tryd.func107,Tryd.ntmps107
   go_wp2_with (go_at_call 121;refine(rall_any r 1 _ HRI.o).mono ?_;rintro e w1 ⟨rfl,hb1⟩;rw [HBB.o])
   go_ret
   exact⟨ret1 HR.o.symm,bel1 hb1⟩
 ·have HR:=ai (show resE ts.l 7 typ col r.l=if alla 1 r.l then 1 else 0 by simp [resE])
  obtain⟨b,hb⟩ : ∃b,alla 1 r.l=b:=⟨_,rfl⟩;have HBB:=ai hb;rw [hb]at HR;clear hb
  cases b
  ·go_enter Tryd.func107,Tryd.ntmps107
   go_wp2_with (go_at_call 121;refine(rall_any r 1 _ HRI.o).mono ?_;rintro e w1 ⟨rfl,hb1⟩;rw [HBB.o])
   go_ret
   exact⟨ret1 HR.o.symm,bel1 hb1⟩
  ·go_enter Tryd.func107,Tryd.ntmps107
   go_wp2_with (go_at_call 121;refine(rall_any r 1 _ HRI.o).mono ?_;rintro e w1 ⟨rfl,hb1⟩;rw [HBB.o])
   go_ret
   exact⟨ret1 HR.o.symm,bel1 hb1⟩
 ·have HR:=ai (show resE ts.l 8 typ col r.l=if alla 1 r.l then 1 else 0 by simp [resE])
  obtain⟨b,hb⟩ : ∃b,alla 1 r.l=b:=⟨_,rfl⟩;have HBB:=ai hb;rw [hb]at HR;clear hb
  cases b
  ·go_enter Tryd.func107,Tryd.ntmps107
   go_wp2_with (go_at_call 121;refine(rall_any r 1 _ HRI.o).mono ?_;rintro e w1 ⟨rfl,hb1⟩;rw [HBB.o])
   go_ret
   exact⟨ret1 HR.o.symm,bel1 hb1⟩
  ·go_enter Tryd.func107,Tryd.ntmps107
   go_wp2_with (go_at_call 121;refine(rall_any r 1 _ HRI.o).mono ?_;rintro e w1 ⟨rfl,hb1⟩;rw [HBB.o])
   go_ret
   exact⟨ret1 HR.o.symm,bel1 hb1⟩
 ·have HR:=ai (show resE ts.l 9 typ col r.l=if alla 1 r.l then 1 else 0 by simp [resE])
  obtain⟨b,hb⟩ : ∃b,alla 1 r.l=b:=⟨_,rfl⟩;have HBB:=ai hb;rw [hb]at HR;clear hb
  cases b
  ·go_enter Tryd.func107,Tryd.ntmps107
   go_wp2_with (go_at_call 121;refine(rall_any r 1 _ HRI.o).mono ?_;rintro e w1 ⟨rfl,hb1⟩;rw [HBB.o])
   go_ret
   exact⟨ret1 HR.o.symm,bel1 hb1⟩
  ·go_enter Tryd.func107,Tryd.ntmps107
   go_wp2_with (go_at_call 121;refine(rall_any r 1 _ HRI.o).mono ?_;rintro e w1 ⟨rfl,hb1⟩;rw [HBB.o])
   go_ret
   exact⟨ret1 HR.o.symm,bel1 hb1⟩
 ·have HR:=ai (show resE ts.l 10 typ col r.l=if alla 1 r.l then 1 else 0 by simp [resE])
  obtain⟨b,hb⟩ : ∃b,alla 1 r.l=b:=⟨_,rfl⟩;have HBB:=ai hb;rw [hb]at HR;clear hb
  cases b
  ·go_enter Tryd.func107,Tryd.ntmps107
   go_wp2_with (go_at_call 121;refine(rall_any r 1 _ HRI.o).mono ?_;rintro e w1 ⟨rfl,hb1⟩;rw [HBB.o])
   go_ret
   exact⟨ret1 HR.o.symm,bel1 hb1⟩
  ·go_enter Tryd.func107,Tryd.ntmps107
   go_wp2_with (go_at_call 121;refine(rall_any r 1 _ HRI.o).mono ?_;rintro e w1 ⟨rfl,hb1⟩;rw [HBB.o])
   go_ret
   exact⟨ret1 HR.o.symm,bel1 hb1⟩
 ·have HR:=ai (show resE ts.l 11 typ col r.l=if alla 1 r.l then 1 else 0 by simp [resE])
  obtain⟨b,hb⟩ : ∃b,alla 1 r.l=b:=⟨_,rfl⟩;have HBB:=ai hb;rw [hb]at HR;clear hb
  cases b
  ·go_enter Tryd.func107,Tryd.ntmps107
   go_wp2_with (go_at_call 121;refine(rall_any r 1 _ HRI.o).mono ?_;rintro e w1 ⟨rfl,hb1⟩;rw [HBB.o])
   go_ret
   exact⟨ret1 HR.o.symm,bel1 hb1⟩
  ·go_enter Tryd.func107,Tryd.ntmps107
   go_wp2_with (go_at_call 121;refine(rall_any r 1 _ HRI.o).mono ?_;rintro e w1 ⟨rfl,hb1⟩;rw [HBB.o])
   go_ret
   exact⟨ret1 HR.o.symm,bel1 hb1⟩
 ·have HR:=ai (show resE ts.l 12 typ col r.l=if alla 3 r.l then 3 else 0 by simp [resE])
  obtain⟨b,hb⟩ : ∃b,alla 3 r.l=b:=⟨_,rfl⟩;have HBB:=ai hb;rw [hb]at HR;clear hb
  cases b
  ·go_enter Tryd.func107,Tryd.ntmps107
   go_wp2_with (go_at_call 121;refine(rall_any r 3 _ HRI.o).mono ?_;rintro e w1 ⟨rfl,hb1⟩;rw [HBB.o])
   go_ret
   exact⟨ret1 HR.o.symm,bel1 hb1⟩
  ·go_enter Tryd.func107,Tryd.ntmps107
   go_wp2_with (go_at_call 121;refine(rall_any r 3 _ HRI.o).mono ?_;rintro e w1 ⟨rfl,hb1⟩;rw [HBB.o])
   go_ret
   exact⟨ret1 HR.o.symm,bel1 hb1⟩
 ·have HR:=ai (show resE ts.l 13 typ col r.l=if alla 3 r.l then 1 else 0 by simp [resE])
  obtain⟨b,hb⟩ : ∃b,alla 3 r.l=b:=⟨_,rfl⟩;have HBB:=ai hb;rw [hb]at HR;clear hb
  cases b
  ·go_enter Tryd.func107,Tryd.ntmps107
   go_wp2_with (go_at_call 121;refine(rall_any r 3 _ HRI.o).mono ?_;rintro e w1 ⟨rfl,hb1⟩;rw [HBB.o])
   go_ret
   exact⟨ret1 HR.o.symm,bel1 hb1⟩
  ·go_enter Tryd.func107,Tryd.ntmps107
   go_wp2_with (go_at_call 121;refine(rall_any r 3 _ HRI.o).mono ?_;rintro e w1 ⟨rfl,hb1⟩;rw [HBB.o])
   go_ret
   exact⟨ret1 HR.o.symm,bel1 hb1⟩
 ·have HRX:=HRI.o
  have hn2:2≤r.l.length:=by have:=HK.o;simp [kidsOk]at this;omega
  have p0:0<r.l.length:=by omega
  have hix0: ∀U,(Instr.indexAt 22 (.slice r.h.ao r.l.length r.h.cap) (.int .i64 0)).run Tryd.prog U = .ok (.pointer (some ⟨r.h.b,r.h.o,none⟩)) U:=fun U=>by simpa using IL.ix HRX p0 U
  have c0: (w.alloc (.cells #[.int .i64 14,.int .i64 typ,.int .i64 num,.string text,.int .i64 col,.slice ko kl kc] 45)).cell? ⟨r.h.b,r.h.o,none⟩ =some (.int .i64 r.l[0]):=by simpa only [Nat.add_zero]using int_at HRX.1 p0
  have hg0:r.l.getD 0 0=r.l[0]:=by simp [List.getD,p0]
  have hbk:=HRX.1.blk p0;have HR:=ai (show resE ts.l 14 typ col r.l=if alla r.l[0] r.l then 2 else 0 by rw [←hg0];simp [resE])
  clear hn2 HRX hg0;obtain⟨b,hb⟩ : ∃b,alla r.l[0] r.l=b:=⟨_,rfl⟩;have HBB:=ai hb;rw [hb]at HR;clear hb
  cases b
  all_goals
   go_enter Tryd.func107,Tryd.ntmps107;go_wp2_with (go_at_call 121;refine(rall_any r r.l[0] _ HRI.o).mono ?_;rintro e w1 ⟨rfl,hb1⟩;rw [HBB.o])
   go_ret
   exact⟨ret1 HR.o.symm,bel1 hb1⟩
 ·have HRX:=HRI.o
  have hn2:2≤r.l.length:=by have:=HK.o;simp [kidsOk]at this;omega
  have p0:0<r.l.length:=by omega
  have hix0: ∀U,(Instr.indexAt 22 (.slice r.h.ao r.l.length r.h.cap) (.int .i64 0)).run Tryd.prog U = .ok (.pointer (some ⟨r.h.b,r.h.o,none⟩)) U:=fun U=>by simpa using IL.ix HRX p0 U
  have c0: (w.alloc (.cells #[.int .i64 15,.int .i64 typ,.int .i64 num,.string text,.int .i64 col,.slice ko kl kc] 45)).cell? ⟨r.h.b,r.h.o,none⟩ =some (.int .i64 r.l[0]):=by simpa only [Nat.add_zero]using int_at HRX.1 p0
  have hg0:r.l.getD 0 0=r.l[0]:=by simp [List.getD,p0]
  have hbk:=HRX.1.blk p0;have HR:=ai (show resE ts.l 15 typ col r.l=if alla r.l[0] r.l then 2 else 0 by rw [←hg0];simp [resE])
  clear hn2 HRX hg0;obtain⟨b,hb⟩ : ∃b,alla r.l[0] r.l=b:=⟨_,rfl⟩;have HBB:=ai hb;rw [hb]at HR;clear hb
  cases b
  all_goals
   go_enter Tryd.func107,Tryd.ntmps107;go_wp2_with (go_at_call 121;refine(rall_any r r.l[0] _ HRI.o).mono ?_;rintro e w1 ⟨rfl,hb1⟩;rw [HBB.o])
   go_ret
   exact⟨ret1 HR.o.symm,bel1 hb1⟩
 ·have HRX:=HRI.o
  have hn2:2≤r.l.length:=by have:=HK.o;simp [kidsOk]at this;omega
  have p0:0<r.l.length:=by omega
  have hix0: ∀U,(Instr.indexAt 22 (.slice r.h.ao r.l.length r.h.cap) (.int .i64 0)).run Tryd.prog U = .ok (.pointer (some ⟨r.h.b,r.h.o,none⟩)) U:=fun U=>by simpa using IL.ix HRX p0 U
  have c0: (w.alloc (.cells #[.int .i64 16,.int .i64 typ,.int .i64 num,.string text,.int .i64 col,.slice ko kl kc] 45)).cell? ⟨r.h.b,r.h.o,none⟩ =some (.int .i64 r.l[0]):=by simpa only [Nat.add_zero]using int_at HRX.1 p0
  have hg0:r.l.getD 0 0=r.l[0]:=by simp [List.getD,p0]
  have hbk:=HRX.1.blk p0;have HR:=ai (show resE ts.l 16 typ col r.l=if alla r.l[0] r.l then 2 else 0 by rw [←hg0];simp [resE])
  clear hn2 HRX hg0;obtain⟨b,hb⟩ : ∃b,alla r.l[0] r.l=b:=⟨_,rfl⟩;have HBB:=ai hb;rw [hb]at HR;clear hb
  cases b
  all_goals
   go_enter Tryd.func107,Tryd.ntmps107;go_wp2_with (go_at_call 121;refine(rall_any r r.l[0] _ HRI.o).mono ?_;rintro e w1 ⟨rfl,hb1⟩;rw [HBB.o])
   go_ret
   exact⟨ret1 HR.o.symm,bel1 hb1⟩
 ·have HRX:=HRI.o
  have hn2:2≤r.l.length:=by have:=HK.o;simp [kidsOk]at this;omega
  have p0:0<r.l.length:=by omega
  have hix0: ∀U,(Instr.indexAt 22 (.slice r.h.ao r.l.length r.h.cap) (.int .i64 0)).run Tryd.prog U = .ok (.pointer (some ⟨r.h.b,r.h.o,none⟩)) U:=fun U=>by simpa using IL.ix HRX p0 U
  have c0: (w.alloc (.cells #[.int .i64 17,.int .i64 typ,.int .i64 num,.string text,.int .i64 col,.slice ko kl kc] 45)).cell? ⟨r.h.b,r.h.o,none⟩ =some (.int .i64 r.l[0]):=by simpa only [Nat.add_zero]using int_at HRX.1 p0
  have hg0:r.l.getD 0 0=r.l[0]:=by simp [List.getD,p0]
  have hbk:=HRX.1.blk p0;have HR:=ai (show resE ts.l 17 typ col r.l=if alla r.l[0] r.l then 2 else 0 by rw [←hg0];simp [resE])
  clear hn2 HRX hg0;obtain⟨b,hb⟩ : ∃b,alla r.l[0] r.l=b:=⟨_,rfl⟩;have HBB:=ai hb;rw [hb]at HR;clear hb
  cases b
  all_goals
   go_enter Tryd.func107,Tryd.ntmps107;go_wp2_with (go_at_call 121;refine(rall_any r r.l[0] _ HRI.o).mono ?_;rintro e w1 ⟨rfl,hb1⟩;rw [HBB.o])
   go_ret
   exact⟨ret1 HR.o.symm,bel1 hb1⟩
 ·have HRX:=HRI.o
  have hn2:2≤r.l.length:=by have:=HK.o;simp [kidsOk]at this;omega
  have p0:0<r.l.length:=by omega
  have hix0: ∀U,(Instr.indexAt 22 (.slice r.h.ao r.l.length r.h.cap) (.int .i64 0)).run Tryd.prog U = .ok (.pointer (some ⟨r.h.b,r.h.o,none⟩)) U:=fun U=>by simpa using IL.ix HRX p0 U
  have c0: (w.alloc (.cells #[.int .i64 18,.int .i64 typ,.int .i64 num,.string text,.int .i64 col,.slice ko kl kc] 45)).cell? ⟨r.h.b,r.h.o,none⟩ =some (.int .i64 r.l[0]):=by simpa only [Nat.add_zero]using int_at HRX.1 p0
  have hg0:r.l.getD 0 0=r.l[0]:=by simp [List.getD,p0]
  have hbk:=HRX.1.blk p0;have HR:=ai (show resE ts.l 18 typ col r.l=if alla r.l[0] r.l then 2 else 0 by rw [←hg0];simp [resE])
  clear hn2 HRX hg0;obtain⟨b,hb⟩ : ∃b,alla r.l[0] r.l=b:=⟨_,rfl⟩;have HBB:=ai hb;rw [hb]at HR;clear hb
  cases b
  all_goals
   go_enter Tryd.func107,Tryd.ntmps107;go_wp2_with (go_at_call 121;refine(rall_any r r.l[0] _ HRI.o).mono ?_;rintro e w1 ⟨rfl,hb1⟩;rw [HBB.o])
   go_ret
   exact⟨ret1 HR.o.symm,bel1 hb1⟩
 ·have HRX:=HRI.o
  have hn2:2≤r.l.length:=by have:=HK.o;simp [kidsOk]at this;omega
  have p0:0<r.l.length:=by omega
  have hix0: ∀U,(Instr.indexAt 22 (.slice r.h.ao r.l.length r.h.cap) (.int .i64 0)).run Tryd.prog U = .ok (.pointer (some ⟨r.h.b,r.h.o,none⟩)) U:=fun U=>by simpa using IL.ix HRX p0 U
  have c0: (w.alloc (.cells #[.int .i64 19,.int .i64 typ,.int .i64 num,.string text,.int .i64 col,.slice ko kl kc] 45)).cell? ⟨r.h.b,r.h.o,none⟩ =some (.int .i64 r.l[0]):=by simpa only [Nat.add_zero]using int_at HRX.1 p0
  have hg0:r.l.getD 0 0=r.l[0]:=by simp [List.getD,p0]
  have hbk:=HRX.1.blk p0;have HR:=ai (show resE ts.l 19 typ col r.l=if alla r.l[0] r.l then 2 else 0 by rw [←hg0];simp [resE])
  clear hn2 HRX hg0;obtain⟨b,hb⟩ : ∃b,alla r.l[0] r.l=b:=⟨_,rfl⟩;have HBB:=ai hb;rw [hb]at HR;clear hb
  cases b
  all_goals
   go_enter Tryd.func107,Tryd.ntmps107;go_wp2_with (go_at_call 121;refine(rall_any r r.l[0] _ HRI.o).mono ?_;rintro e w1 ⟨rfl,hb1⟩;rw [HBB.o])
   go_ret
   exact⟨ret1 HR.o.symm,bel1 hb1⟩
 ·have HRX:=HRI.o
  have hn2:2≤r.l.length:=by have:=HK.o;simp [kidsOk]at this;omega
  have p0:0<r.l.length:=by omega
  have hix0: ∀U,(Instr.indexAt 22 (.slice r.h.ao r.l.length r.h.cap) (.int .i64 0)).run Tryd.prog U = .ok (.pointer (some ⟨r.h.b,r.h.o,none⟩)) U:=fun U=>by simpa using IL.ix HRX p0 U
  have c0: (w.alloc (.cells #[.int .i64 20,.int .i64 typ,.int .i64 num,.string text,.int .i64 col,.slice ko kl kc] 45)).cell? ⟨r.h.b,r.h.o,none⟩ =some (.int .i64 r.l[0]):=by simpa only [Nat.add_zero]using int_at HRX.1 p0
  have hg0:r.l.getD 0 0=r.l[0]:=by simp [List.getD,p0]
  have hbk:=HRX.1.blk p0;have HR:=ai (show resE ts.l 20 typ col r.l=if alla r.l[0] r.l then 2 else 0 by rw [←hg0];simp [resE])
  clear hn2 HRX hg0;obtain⟨b,hb⟩ : ∃b,alla r.l[0] r.l=b:=⟨_,rfl⟩;have HBB:=ai hb;rw [hb]at HR;clear hb
  cases b
  all_goals
   go_enter Tryd.func107,Tryd.ntmps107;go_wp2_with (go_at_call 121;refine(rall_any r r.l[0] _ HRI.o).mono ?_;rintro e w1 ⟨rfl,hb1⟩;rw [HBB.o])
   go_ret
   exact⟨ret1 HR.o.symm,bel1 hb1⟩
 ·have HR:=ai (show resE ts.l 21 typ col r.l=2 by simp [resE])
  go_enter Tryd.func107,Tryd.ntmps107;go_wp2;go_ret
  exact⟨ret1 HR.o.symm,belA _⟩
 ·have HR:=ai (show resE ts.l 22 typ col r.l=if alla 2 r.l then 2 else 0 by simp [resE])
  obtain⟨b,hb⟩ : ∃b,alla 2 r.l=b:=⟨_,rfl⟩;have HBB:=ai hb;rw [hb]at HR;clear hb
  cases b
  ·go_enter Tryd.func107,Tryd.ntmps107
   go_wp2_with (go_at_call 121;refine(rall_any r 2 _ HRI.o).mono ?_;rintro e w1 ⟨rfl,hb1⟩;rw [HBB.o])
   go_ret
   exact⟨ret1 HR.o.symm,bel1 hb1⟩
  ·go_enter Tryd.func107,Tryd.ntmps107
   go_wp2_with (go_at_call 121;refine(rall_any r 2 _ HRI.o).mono ?_;rintro e w1 ⟨rfl,hb1⟩;rw [HBB.o])
   go_ret
   exact⟨ret1 HR.o.symm,bel1 hb1⟩
 ·have HR:=ai (show resE ts.l 23 typ col r.l=if alla 2 r.l then 2 else 0 by simp [resE])
  obtain⟨b,hb⟩ : ∃b,alla 2 r.l=b:=⟨_,rfl⟩;have HBB:=ai hb;rw [hb]at HR;clear hb
  cases b
  ·go_enter Tryd.func107,Tryd.ntmps107
   go_wp2_with (go_at_call 121;refine(rall_any r 2 _ HRI.o).mono ?_;rintro e w1 ⟨rfl,hb1⟩;rw [HBB.o])
   go_ret
   exact⟨ret1 HR.o.symm,bel1 hb1⟩
  ·go_enter Tryd.func107,Tryd.ntmps107
   go_wp2_with (go_at_call 121;refine(rall_any r 2 _ HRI.o).mono ?_;rintro e w1 ⟨rfl,hb1⟩;rw [HBB.o])
   go_ret
   exact⟨ret1 HR.o.symm,bel1 hb1⟩
 ·have HR:=ai (show resE ts.l 24 typ col r.l=if alla 2 r.l then 2 else 0 by simp [resE])
  obtain⟨b,hb⟩ : ∃b,alla 2 r.l=b:=⟨_,rfl⟩;have HBB:=ai hb;rw [hb]at HR;clear hb
  cases b
  ·go_enter Tryd.func107,Tryd.ntmps107
   go_wp2_with (go_at_call 121;refine(rall_any r 2 _ HRI.o).mono ?_;rintro e w1 ⟨rfl,hb1⟩;rw [HBB.o])
   go_ret
   exact⟨ret1 HR.o.symm,bel1 hb1⟩
  ·go_enter Tryd.func107,Tryd.ntmps107
   go_wp2_with (go_at_call 121;refine(rall_any r 2 _ HRI.o).mono ?_;rintro e w1 ⟨rfl,hb1⟩;rw [HBB.o])
   go_ret
   exact⟨ret1 HR.o.symm,bel1 hb1⟩
 ·have HR:=ai (show resE ts.l 25 typ col r.l=if alla 2 r.l then 2 else 0 by simp [resE])
  obtain⟨b,hb⟩ : ∃b,alla 2 r.l=b:=⟨_,rfl⟩;have HBB:=ai hb;rw [hb]at HR;clear hb
  cases b
  ·go_enter Tryd.func107,Tryd.ntmps107
   go_wp2_with (go_at_call 121;refine(rall_any r 2 _ HRI.o).mono ?_;rintro e w1 ⟨rfl,hb1⟩;rw [HBB.o])
   go_ret
   exact⟨ret1 HR.o.symm,bel1 hb1⟩
  ·go_enter Tryd.func107,Tryd.ntmps107
   go_wp2_with (go_at_call 121;refine(rall_any r 2 _ HRI.o).mono ?_;rintro e w1 ⟨rfl,hb1⟩;rw [HBB.o])
   go_ret
   exact⟨ret1 HR.o.symm,bel1 hb1⟩
 ·have HRX:=HRI.o
  have hn3:r.l.length=3:=by simpa [kidsOk]using HK.o
  have p0:0<r.l.length:=by omega
  have hix0: ∀U,(Instr.indexAt 22 (.slice r.h.ao r.l.length r.h.cap) (.int .i64 0)).run Tryd.prog U = .ok (.pointer (some ⟨r.h.b,r.h.o,none⟩)) U:=fun U=>by simpa using IL.ix HRX p0 U
  have c0: (w.alloc (.cells #[.int .i64 26,.int .i64 typ,.int .i64 num,.string text,.int .i64 col,.slice ko kl kc] 45)).cell? ⟨r.h.b,r.h.o,none⟩ =some (.int .i64 r.l[0]):=by simpa only [Nat.add_zero]using int_at HRX.1 p0
  have hg0:r.l.getD 0 0=r.l[0]:=by simp [List.getD,p0]
  have p1:1<r.l.length:=by omega
  have hix1: ∀U,(Instr.indexAt 22 (.slice r.h.ao r.l.length r.h.cap) (.int .i64 1)).run Tryd.prog U = .ok (.pointer (some ⟨r.h.b,r.h.o+1,none⟩)) U:=fun U=>by simpa using IL.ix HRX p1 U
  have c1: (w.alloc (.cells #[.int .i64 26,.int .i64 typ,.int .i64 num,.string text,.int .i64 col,.slice ko kl kc] 45)).cell? ⟨r.h.b,r.h.o+1,none⟩ =some (.int .i64 r.l[1]):=by simpa only [Nat.add_zero]using int_at HRX.1 p1
  have hg1:r.l.getD 1 0=r.l[1]:=by simp [List.getD,p1]
  have p2:2<r.l.length:=by omega
  have hix2: ∀U,(Instr.indexAt 22 (.slice r.h.ao r.l.length r.h.cap) (.int .i64 2)).run Tryd.prog U = .ok (.pointer (some ⟨r.h.b,r.h.o+2,none⟩)) U:=fun U=>by simpa using IL.ix HRX p2 U
  have c2: (w.alloc (.cells #[.int .i64 26,.int .i64 typ,.int .i64 num,.string text,.int .i64 col,.slice ko kl kc] 45)).cell? ⟨r.h.b,r.h.o+2,none⟩ =some (.int .i64 r.l[2]):=by simpa only [Nat.add_zero]using int_at HRX.1 p2
  have hg2:r.l.getD 2 0=r.l[2]:=by simp [List.getD,p2]
  have hbk:=HRX.1.blk p0;have HR:=ai (show resE ts.l 26 typ col r.l=if (r.l[0] == 2) && (r.l[1] == r.l[2]) then r.l[1] else 0 by rw [←hg0,←hg1,←hg2];simp [resE])
  clear hn3 HRX hg0 hg1 hg2;obtain⟨b,hb⟩ : ∃b,(r.l[0] == 2) =b:=⟨_,rfl⟩;obtain⟨b',hb'⟩ : ∃b,(r.l[1] == r.l[2]) =b:=⟨_,rfl⟩;rw [hb,hb']at HR
  cases b<;>cases b'
  all_goals
   go_enter Tryd.func107,Tryd.ntmps107;go_wp2
   go_quiet (fail)
   go_wp2;go_ret
   exact⟨ret1 HR.o.symm,below_drewN (belA _) _⟩
 ·have HRX:=HRI.o
  have hn2:r.l.length=2:=by simpa [kidsOk]using HK.o
  have p0:0<r.l.length:=by omega
  have hix0: ∀U,(Instr.indexAt 22 (.slice r.h.ao r.l.length r.h.cap) (.int .i64 0)).run Tryd.prog U = .ok (.pointer (some ⟨r.h.b,r.h.o,none⟩)) U:=fun U=>by simpa using IL.ix HRX p0 U
  have c0: (w.alloc (.cells #[.int .i64 27,.int .i64 typ,.int .i64 num,.string text,.int .i64 col,.slice ko kl kc] 45)).cell? ⟨r.h.b,r.h.o,none⟩ =some (.int .i64 r.l[0]):=by simpa only [Nat.add_zero]using int_at HRX.1 p0
  have hg0:r.l.getD 0 0=r.l[0]:=by simp [List.getD,p0]
  have p1:1<r.l.length:=by omega
  have hix1: ∀U,(Instr.indexAt 22 (.slice r.h.ao r.l.length r.h.cap) (.int .i64 1)).run Tryd.prog U = .ok (.pointer (some ⟨r.h.b,r.h.o+1,none⟩)) U:=fun U=>by simpa using IL.ix HRX p1 U
  have c1: (w.alloc (.cells #[.int .i64 27,.int .i64 typ,.int .i64 num,.string text,.int .i64 col,.slice ko kl kc] 45)).cell? ⟨r.h.b,r.h.o+1,none⟩ =some (.int .i64 r.l[1]):=by simpa only [Nat.add_zero]using int_at HRX.1 p1
  have hg1:r.l.getD 1 0=r.l[1]:=by simp [List.getD,p1]
  have hbk:=HRX.1.blk p0;have HR:=ai (show resE ts.l 27 typ col r.l=if (r.l[0] == r.l[1]) then r.l[0] else 0 by rw [←hg0,←hg1];simp [resE])
  clear hn2 HRX hg0 hg1;obtain⟨b,hb⟩ : ∃b,(r.l[0] == r.l[1]) =b:=⟨_,rfl⟩;rw [hb]at HR
  cases b
  all_goals
   go_enter Tryd.func107,Tryd.ntmps107;go_wp2
   go_quiet (fail)
   go_wp2;go_ret
   exact⟨ret1 HR.o.symm,below_drewN (belA _) _⟩
 ·have HRX:=HRI.o
  have hn2:2≤r.l.length:=by have:=HK.o;simp [kidsOk]at this;omega
  have p0:0<r.l.length:=by omega
  have hix0: ∀U,(Instr.indexAt 22 (.slice r.h.ao r.l.length r.h.cap) (.int .i64 0)).run Tryd.prog U = .ok (.pointer (some ⟨r.h.b,r.h.o,none⟩)) U:=fun U=>by simpa using IL.ix HRX p0 U
  have c0: (w.alloc (.cells #[.int .i64 28,.int .i64 typ,.int .i64 num,.string text,.int .i64 col,.slice ko kl kc] 45)).cell? ⟨r.h.b,r.h.o,none⟩ =some (.int .i64 r.l[0]):=by simpa only [Nat.add_zero]using int_at HRX.1 p0
  have hg0:r.l.getD 0 0=r.l[0]:=by simp [List.getD,p0]
  have hbk:=HRX.1.blk p0;have HR:=ai (show resE ts.l 28 typ col r.l=if alla r.l[0] r.l then 2 else 0 by rw [←hg0];simp [resE])
  clear hn2 HRX hg0;obtain⟨b,hb⟩ : ∃b,alla r.l[0] r.l=b:=⟨_,rfl⟩;have HBB:=ai hb;rw [hb]at HR;clear hb
  cases b
  all_goals
   go_enter Tryd.func107,Tryd.ntmps107;go_wp2_with (go_at_call 121;refine(rall_any r r.l[0] _ HRI.o).mono ?_;rintro e w1 ⟨rfl,hb1⟩;rw [HBB.o])
   go_ret
   exact⟨ret1 HR.o.symm,bel1 hb1⟩
end Go.Proofs.YtogalchclmmfgaaDoor

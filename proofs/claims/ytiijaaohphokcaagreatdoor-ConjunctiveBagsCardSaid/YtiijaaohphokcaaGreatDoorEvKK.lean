/- law27.facts: an instance of a plain schema. -/
import Derived.Test.YtiijaaohphokcaaGreatDoorG36
import Derived.Test.YtiijaaohphokcaaGreatDoorCjI9K
namespace Go.Proofs.YtiijaaohphokcaaGreatDoor
open Go.RowKit
def RL.Off (R : RL) (g : Nat) : Prop := (0 < R.l.length → R.h.b ≠ g) ∧ ∀ r ∈ R.l, 0 < r.l.length → r.h.b ≠ g
def RL.Hi (R : RL) (B : Nat) : Prop := (0 < R.l.length → B ≤ R.h.b) ∧ ∀ r ∈ R.l, 0 < r.l.length → B ≤ r.h.b
theorem RL.Hi.off {R : RL} {B g : Nat} (h : R.Hi B) (hg : g < B) : R.Off g := ⟨fun hp e => by have := h.1 hp; omega, fun r hr hp e => by have := h.2 r hr hp; omega⟩
theorem RL.In.any {w w' : World} {R : RL} {row : Option Nat} (h : R.In w) (hg : w.grownBy w' row) (ho : ∀ j, row = some j → R.Off j) : R.In w' :=
  ⟨row_any h.1 hg (fun hp e => (ho _ e.symm).1 hp rfl), fun r hr => ⟨row_any (h.2 r hr).1 hg (fun hp e => (ho _ e.symm).2 r hr hp rfl), (h.2 r hr).2⟩⟩
theorem RL.In.lt {w : World} {R : RL} (h : R.In w) : (0 < R.l.length → R.h.b < w.heap.size) ∧ ∀ r ∈ R.l, 0 < r.l.length → r.h.b < w.heap.size := ⟨fun hp => h.1.blk hp, fun r hr hp => (h.2 r hr).1.blk hp⟩
theorem info_rl : (Tryz.prog.info? 49).map (fun i => (i.zero, i.size, i.bytes)) = some (some (.slice none 0 0), 1, 24) := by kernel_rfl
theorem rows_snoc {α : Type} {cells : α → List Value} (l : List α) (u : α) : (l ++ [u]).flatMap cells = l.flatMap cells ++ cells u := by rw [List.flatMap_append, List.flatMap_cons, List.flatMap_nil, List.append_nil]
theorem tape_far {w w' : World} {b a : Nat} {L : IL} {row : Option Nat} (h : TapeIn w b L a) (hg : w.grownBy w' row) (hr : ∀ j, row = some j → j ≠ b ∧ (0 < L.l.length → L.h.b ≠ j)) : TapeIn w' b L a :=
  ⟨by rw [World.cell?_of_block (hg.block b h.lt (fun e => (hr b e.symm).1 rfl))]; exact h.lst, by rw [World.cell?_of_block (hg.block b h.lt (fun e => (hr b e.symm).1 rfl))]; exact h.pos, by rw [World.frozen?_of_block (hg.block b h.lt (fun e => (hr b e.symm).1 rfl))]; exact h.fr, ⟨row_any h.row.1 hg (fun hp e => (hr _ e.symm).2 hp rfl), h.row.2⟩, h.ne⟩
def FactPost (w : World) (b : Nat) (L : IL) (T : List (List Int)) (n : Nat) (e : Ending) (w' : World) : Prop :=
  ∃ (x : Ins) (a' : Nat), e = .returned (.agg #[.slice x.h.ao x.l.length x.h.cap]) ∧ x.In w' ∧ FitI T x n ∧ TapeIn w' b L a' ∧ w.grownBy w' (some b)
theorem rowOk_snoc {ty : List Int} {vs : List V} {u : V} {c : Int} (h : ∀ (i : Nat) (v : V) (c : Int), vs[i]? = some v → ty[i]? = some c → ValOk v c) (hc : ty[vs.length]? = some c) (hu : ValOk u c) : ∀ (i : Nat) (v : V) (c : Int), (vs ++ [u])[i]? = some v → ty[i]? = some c → ValOk v c := fun i v c2 hv hc2 => by
  by_cases hi : i < vs.length
  · rw [List.getElem?_append_left hi] at hv
    exact h i v c2 hv hc2
  · have h1 := (List.getElem?_eq_some_iff.1 hv).1
    rw [List.length_append] at h1
    simp only [List.length_cons, List.length_nil] at h1
    have hi2 : i = vs.length := by omega
    subst hi2
    rw [List.getElem?_append_right (Nat.le_refl _), Nat.sub_self] at hv
    injection hv with hv
    rw [hc] at hc2
    injection hc2 with hc2
    rw [← hv, ← hc2]; exact hu
set_option maxRecDepth 100000 in
set_option maxHeartbeats 16000000 in
theorem facts_any (s : Sch) (w : World) (b : Nat) (L : IL) (a n : Nat) (ht : TapeIn w b L a) (ha : a ≤ 4611686018427360000) (hsi : ∀ z, w.grownBy z (some b) → s.In z) (hp : PSch s) (hn : n ≤ 200) :
    Calls Tryz.prog 17 #[.pointer (some ⟨b, 0, none⟩), .agg #[.slice s.th.ao s.tabs.length s.th.cap], .int .i64 (n : Nat)] w (FactPost w b L (colT s) n) := by
  have HT := hide ht
  have HSI := hide hsi
  have HP := hide hp
  have hbw := ht.lt
  have HLW := hide ht.low
  have hn6 : s.tabs.length ≤ 6 := hp.n6
  obtain ⟨X, hX⟩ : ∃ X, ((w.alloc (.cells #[.slice s.th.ao s.tabs.length s.th.cap] 27)).alloc (.cells #[.slice none 0 0] 46)).alloc (.cells #[.slice none 0 0] 46) = X := ⟨_, rfl⟩
  have HBX := hide (show Below w.heap.size w X from by rw [← hX]; exact bel_trans (belAA _ _) (belA _))
  have HBS := hide (show Box X w.heap.size #[.slice s.th.ao s.tabs.length s.th.cap] 27 from by rw [← hX]; exact ((Box.new _ _ _).below (belA _)).below (belA _))
  have HB6 := hide (show Box X (w.heap.size + 1) #[.slice none 0 0] 46 from by
    rw [← hX]
    have h := (Box.new (w.alloc (.cells #[.slice s.th.ao s.tabs.length s.th.cap] 27)) #[.slice none 0 0] 46).below (belA (.cells #[.slice none 0 0] 46))
    rwa [World.size_alloc] at h)
  have HB7 := hide (show Box X (w.heap.size + 1 + 1) #[.slice none 0 0] 46 from by
    rw [← hX]
    have h := Box.new ((w.alloc (.cells #[.slice s.th.ao s.tabs.length s.th.cap] 27)).alloc (.cells #[.slice none 0 0] 46)) #[.slice none 0 0] 46
    rwa [World.size_alloc, World.size_alloc] at h)
  have HTX := hide (ht.mono HBX.out)
  have HXE := hide hX
  have s0 : X.cell? ⟨w.heap.size, 0, none⟩ = some (.slice s.th.ao s.tabs.length s.th.cap) := HBS.out.cell rfl
  obtain ⟨i3, hi3, hz30, hz31, hz32⟩ := info_parts info_v3
  have HI3 := hide (And.intro hi3 (And.intro hz30 (And.intro hz31 hz32)))
  obtain ⟨ir, hir, hzr0, hzr1, hzr2⟩ := info_parts info_rv
  have HIR := hide (And.intro hir (And.intro hzr0 (And.intro hzr1 hzr2)))
  obtain ⟨it, hit, hzt0, hzt1, hzt2⟩ := info_parts info_rl
  have HIT := hide (And.intro hit (And.intro hzt0 (And.intro hzt1 hzt2)))
  clear ht hsi hp hX hi3 hz30 hz31 hz32 hir hzr0 hzr1 hzr2 hit hzt0 hzt1 hzt2
  go_enter Tryz.func17, Tryz.ntmps17
  go_upto_region 2 with fail
  rw [HXE.out]
  go_wp2
  clear s0
  go_loopw [18] (fun i wr => ∃ (k ak : Nat) (tv : Value) (tabs : List RL), k ≤ s.tabs.length ∧ tabs.length = k ∧ i = .int .i64 k ∧ Hid (w.grownBy wr (some b)) ∧ Hid (TapeIn wr b L ak) ∧ Hid (ak ≤ a + k * 2000) ∧ Hid (Box wr w.heap.size #[.slice s.th.ao s.tabs.length s.th.cap] 27) ∧ Hid (Box wr (w.heap.size + 1) #[.slice none 0 0] 46) ∧ Hid (Box wr (w.heap.size + 1 + 1) #[tv] 46) ∧
    Hid (wr.ownsRow (w.heap.size + 3) 49 1 tv tabs.length (tabs.flatMap RL.cells)) ∧ Hid (∀ R ∈ tabs, R.In wr ∧ R.Hi (w.heap.size + 3) ∧ ∀ j, tv.ownBlock = some j → R.Off j) ∧ Hid (∀ (m : Nat) (R : RL) (ty : List Int), tabs[m]? = some R → (colT s)[m]? = some ty → R.l.length ≤ n ∧ ∀ v ∈ R.l, RowOk ty v.l)) (fun i _ => s.tabs.length - (intOf i).toNat)
  case atStart => exact ⟨0, a, .slice none 0 0, [], Nat.zero_le _, rfl, rfl, hide (only_below HBX.out _), HTX, hide (by omega), HBS, HB6, HB7, hide (World.ownsRow_nil _ _ _ _), hide (fun _ h => by cases h), hide (fun _ _ _ h => by cases h)⟩
  case round =>
  obtain ⟨k, ak, tv, tabs, hk, htl, rfl, HG, HTP, HAK, HBS, HB6, HB7, HOT, HTB, HFI⟩ := hrel
  have HTL := hide htl
  clear htl
  by_cases hlt : k < s.tabs.length
  · have HSW := hide (HSI.out _ HG.out)
    have hsr := HSW.out.rt
    have hix := hsr.ix hlt Tryz.underlying25 sz22
    have htab := tab_at hsr hlt
    have hbk := hsr.blk hlt
    obtain ⟨nm, ch, cols, ph, e, _, hpc⟩ := HP.out.pl _ (List.getElem_mem hlt)
    have HCR := hide (fun z (hz : w.grownBy z (some b)) => (show (pt nm ch cols ph).In z from e ▸ (HSI.out z hz).ts _ (List.getElem_mem hlt)))
    have HTY := hide (show (colT s)[k]? = some (cols.map Col.typ) from by rw [colT_at hlt, e])
    rw [e] at htab
    obtain ⟨t0, t1, t2, t3, t4, t5⟩ := htab
    change wr.cell? ⟨s.th.b, s.th.o + k * 6 + 2, none⟩ = some (.slice ph.ao 1 ph.cap) at t2
    change wr.cell? ⟨s.th.b, s.th.o + k * 6 + 3, none⟩ = some (.slice none 0 0) at t3
    change wr.cell? ⟨s.th.b, s.th.o + k * 6 + 4, none⟩ = some (.slice none 0 0) at t4
    change wr.cell? ⟨s.th.b, s.th.o + k * 6 + 5, none⟩ = some (.slice none 0 0) at t5
    have HPC := hide hpc
    have hc8 : cols.length ≤ 8 := hpc.l8
    obtain ⟨Z, hZ⟩ : ∃ Z, wr.alloc (.cells #[.string nm, .slice ch.ao cols.length ch.cap, .slice ph.ao 1 ph.cap, .slice none 0 0, .slice none 0 0, .slice none 0 0] 78) = Z := ⟨_, rfl⟩
    have HZB := hide (box1X hZ).2
    have HZT := hide (box1X hZ).1
    have HTZ := hide (HTP.out.mono HZB.out)
    have HGZ := hide (HG.out.trans (only_below HZB.out (some b)))
    have hbz : b < wr.heap.size := HTP.out.lt
    have hwr : w.heap.size ≤ wr.heap.size := HG.out.size
    have hwz : wr.heap.size < Z.heap.size := HZT.out.lt
    have HWZ := hide (And.intro hwr hwz)
    have HZE := hide hZ
    clear e hpc hZ hsr
    go_upto_region 5 with fail
    rw [HZE.out]
    clear HZE hix t0 t1 t2 t3 t4 t5
    have hn1 : IntKind.i64.wrap ((n : Int) + 1) = ((n + 1 : Nat) : Int) := by rw [IntKind.wrap_i64]; omega
    have hfm := fmod_ok (x := rawAt L ak) (n := ((n + 1 : Nat) : Int)) (by omega)
    obtain ⟨k0, hk0, hkn⟩ : ∃ k0 : Nat, k0 ≤ n ∧ nAt L ak ((n + 1 : Nat) : Int) = k0 := ⟨(nAt L ak ((n + 1 : Nat) : Int)).toNat, by unfold nAt; omega, by unfold nAt; omega⟩
    have HKN := hide hkn
    have HNC := hide (n_any Z b ak L ((n + 1 : Nat) : Int) HTZ.out (by have := HAK.out; omega) (by constructor <;> omega))
    rw [HKN.out] at HNC
    clear hfm hkn
    go_wp2_with (go_at_call 10; refine HNC.out.mono ?_; rintro e y ⟨rfl, h1, h2⟩; have HTY1 := hide h1; have HGY := hide h2; clear h1 h2 HNC)
    have hpl := pos_le L ak
    have HAY := hide (show posAt L ak ≤ ak + 1 + 0 * 8 from by omega)
    clear hpl hn1
    go_loopw [10, 11] (fun rv i wr => ∃ (c am : Nat) (rows : List VL) (u : Value), u = rv ∧ i = .int .i64 c ∧ c + rows.length = k0 ∧ Hid (Z.grownBy wr (some b)) ∧ Hid (TapeIn wr b L am) ∧ Hid (am ≤ ak + 1 + rows.length * 8) ∧ Hid (wr.ownsRow Z.heap.size 96 1 rv rows.length (rows.flatMap VL.cells)) ∧ Hid (∀ r ∈ rows, r.In wr ∧ RowOk (cols.map Col.typ) r.l ∧ (0 < r.l.length → Z.heap.size ≤ r.h.b ∧ rv.ownBlock ≠ some r.h.b))) (fun _ i _ => (intOf i).toNat)
    case atStart => exact ⟨k0, _, [], _, rfl, rfl, by simp, HGY, HTY1, HAY, hide (World.ownsRow_nil _ _ _ _), hide (fun _ h => by cases h)⟩
    clear HGY HTY1 HAY
    case round =>
    obtain ⟨c, am, rows, u, rfl, rfl, hck, HGM, HTM, HAM, HOM, HRM⟩ := hrel
    obtain ⟨M, rfl⟩ : ∃ M, M = wr := ⟨_, rfl⟩
    have hzm : Z.heap.size ≤ M.heap.size := HGM.out.size
    have HBZ := hide (show b < Z.heap.size from by omega)
    have HOB := hide (show ∀ j, u.ownBlock = some j → Z.heap.size ≤ j ∧ j < M.heap.size from fun j e => HOM.out.lt j e)
    by_cases hc : 0 < c
    · have hci : (0 : Int) < c := by omega
      have y1 := (HZT.out.grown HGM.out (by intro e; injection e with e; omega)).cell (j := 1) rfl
      have HGW := hide (HGZ.out.trans HGM.out)
      go_wp2
      clear y1
      go_loopw [12, 33] (fun cv i wr => ∃ (j aj : Nat) (vs : List V) (u2 : Value), u2 = cv ∧ j ≤ cols.length ∧ vs.length = j ∧ i = .int .i64 j ∧ Hid (M.grownBy wr (some b)) ∧ Hid (TapeIn wr b L aj) ∧ Hid (aj ≤ am + j) ∧ Hid (wr.ownsRow M.heap.size 81 3 cv vs.length (vs.flatMap V.cells)) ∧ Hid (∀ v ∈ vs, v.wf) ∧ Hid (∀ (i : Nat) (v : V) (c : Int), vs[i]? = some v → (cols.map Col.typ)[i]? = some c → ValOk v c)) (fun _ i _ => cols.length - (intOf i).toNat)
      case atStart => exact ⟨0, am, [], _, rfl, Nat.zero_le _, rfl, rfl, hide (World.grownBy.refl _ _), HTM, hide (by omega), hide (World.ownsRow_nil _ _ _ _), hide (fun _ h => by cases h), hide (fun i v c h => by simp at h)⟩
      case round =>
      obtain ⟨j, aj, vs, u2, rfl, hj, hvl, rfl, HGJ, HTJ, HAJ, HOJ, HVW, HVK⟩ := hrel
      have hmw : M.heap.size ≤ wr.heap.size := HGJ.out.size
      by_cases hlj : j < cols.length
      · have HTI := hide (HCR.out _ (HGW.out.trans HGJ.out))
        have hcr := HTI.out.rc
        have hixc := hcr.ix hlj Tryz.underlying73 sz30
        obtain ⟨c0, c1, c2⟩ := col_at hcr hlj
        have hbc := hcr.blk hlj
        obtain ⟨co, hco⟩ : ∃ co, cols[j] = co := ⟨_, rfl⟩
        have hty := HPC.out.ty _ (List.getElem_mem hlj)
        have HTC := hide (show (cols.map Col.typ)[vs.length]? = some co.typ from by rw [hvl, List.getElem?_map, List.getElem?_eq_getElem hlj, hco]; rfl)
        rw [hco] at c0 c1 c2 hty
        obtain ⟨V1, hV⟩ : ∃ V1, wr.alloc (.cells #[.string co.name, .int .i64 co.typ, .bool co.nul] 72) = V1 := ⟨_, rfl⟩
        have HVB := hide (box1X hV).2
        have HVX := hide (box1X hV).1
        have v1 := HVX.out.cell (j := 1) rfl
        have HVC := hide (value_any co.typ hty V1 b aj L (HTJ.out.mono HVB.out) (by have h1 := HAJ.out; have h2 := HAM.out; have h3 := HAK.out; omega))
        have HOV := hide (HOJ.out.kept (only_below HVB.out none) (Classical.em _))
        have HGV := hide (HGJ.out.trans (only_below HVB.out (some b)))
        have HVE := hide hV
        clear hco hV hcr hty
        go_upto_region 13 with fail
        rw [HVE.out]
        clear HVE c0 c1 c2 hixc
        go_wp2_with (first
          | (have hq := HVC; clear hq; go_at_call 52; refine HVC.out.mono ?_; rintro e Y1 ⟨kv, rfl, h1, ⟨a3, h2, h3⟩, h4⟩; have HKV := hide h1; have HTV := hide h3; have HAV := hide h2; have HGY1 := hide (HGV.out.trans h4); have HOY := hide (HOV.out.kept h4 (.inr (fun e => by have := (HOV.out.lt _ e).1; have := HBZ.out; omega))); clear h1 h2 h3 h4 HVC v1)
          | (at_builtin; refine wpList_append_own _ rfl _ _ 96 rfl M.heap.size 81 i3 (.agg #[.int .i64 0, .int .i64 0, .string ByteArray.empty]) 3 32 Tryz.underlying96 HI3.out.1 HI3.out.2.1 HI3.out.2.2.1 HI3.out.2.2.2 rfl (by decide) _ _ _ rfl (HOY.out.alloc _) ⟨Y1.heap.size, 0, none⟩ 1 1 (V.cells kv) rfl rfl (new_cells (l := V.cells kv)) (va_one kv) (by unfold maxLen; omega) (by omega) (by have := HGY1.out.size; simp; omega) ?_; intro nv2 Y4 hown4 hgr4 _))
        have HO4 := hide (show Y4.ownsRow M.heap.size 81 3 nv2 (vs ++ [kv]).length ((vs ++ [kv]).flatMap V.cells) from by rw [vals_snoc, List.length_append]; exact hown4)
        have hol := HOY.out.lt
        have hlw := HLW.out
        have HG4 := hide ((HGY1.out.trans (only_below (belA _) (some b))).andThen hgr4 (fun j e => .inl (hol j e).1))
        have HT4 := hide (tape_far (HTV.out.mono (belA _)) hgr4 (fun j e => by have := (hol j e).1; exact ⟨by have := HBZ.out; omega, fun hp => by have := hlw.2 hp; omega⟩))
        have hnv := HKV.out
        have HW4 := hide (show ∀ v ∈ vs ++ [kv], v.wf from fun v hv => by rcases List.mem_append.1 hv with h | h; exact HVW.out v h; rw [List.mem_singleton.1 h]; exact hnv.2.2)
        have HK4 := hide (rowOk_snoc HVK.out HTC.out ⟨hnv.2.2, hnv.2.1.1, hnv.1⟩)
        clear hown4 hgr4 hol hlw hnv
        go_roundw
        case rel => exact ⟨j + 1, a3, vs ++ [kv], nv2, rfl, by omega, by rw [List.length_append]; simp only [List.length_cons, List.length_nil]; omega, by go_num, HG4, HT4, hide (by have := HAJ.out; have := HAV.out; omega), HO4, HW4, HK4⟩
        case measure => simp [intOf]; omega
      · have hje : j = cols.length := by omega
        obtain ⟨hd, hu2, hvin, hvb⟩ := own_vals HOJ.out HVW.out
        subst hu2
        have HVI := hide hvin
        have HVB := hide hvb
        have HROK := hide (show RowOk (cols.map Col.typ) vs from ⟨by rw [List.length_map]; omega, HVK.out⟩)
        have HOW := hide (HOM.out.kept HGJ.out (.inr (fun e => by have := (HOB.out _ e).1; have := HBZ.out; omega)))
        have HRW := hide (show ∀ r ∈ rows, r.In wr from fun r hr => ⟨row_any (HRM.out r hr).1.1 HGJ.out (fun hp e => by injection e with e; have := ((HRM.out r hr).2.2 hp).1; have := HBZ.out; omega), (HRM.out r hr).1.2⟩)
        clear hvin hvb HOJ hvl hje
        have hrn : rows.length ≤ 1000 := by omega
        go_wp2_with (at_builtin; refine wpList_append_own_at _ rfl _ _ 49 rfl Z.heap.size 96 ir (.slice none 0 0) 1 24 Tryz.underlying49 HIR.out.1 HIR.out.2.1 HIR.out.2.2.1 HIR.out.2.2.2 rfl (by decide) _ rows.length (rows.flatMap VL.cells) rfl (HOW.out.alloc _) ⟨wr.heap.size, 0, none⟩ 1 1 [.slice hd.ao vs.length hd.cap] rfl rfl (new_cells (l := [.slice hd.ao vs.length hd.cap])) (by intro a ha; rw [List.mem_singleton.1 ha]; rfl) (by unfold maxLen; omega) (by omega) (by simp; omega) ?_; intro rv4 Y4 hown4 hgr4 _ hblk4)
        have hgr4 : (wr.alloc (.cells #[.slice hd.ao vs.length hd.cap] 96)).grownBy Y4 u.ownBlock := hgr4
        have hblk4 : rv4.ownBlock = u.ownBlock ∨ rv4.ownBlock = some (wr.alloc (.cells #[.slice hd.ao vs.length hd.cap] 96)).heap.size := hblk4
        have HO4 := hide (show Y4.ownsRow Z.heap.size 96 1 rv4 (rows ++ [(⟨hd, vs⟩ : VL)]).length ((rows ++ [(⟨hd, vs⟩ : VL)]).flatMap VL.cells) from by rw [rows_snoc, List.length_append]; exact hown4)
        have hol := HOW.out.lt
        have hlw := HLW.out
        have HG4 := hide (((HGM.out.trans HGJ.out).trans (only_below (belA (.cells #[.slice hd.ao vs.length hd.cap] 96)) (some b))).andThen hgr4 (fun j e => .inl (hol j e).1))
        have HT4 := hide (tape_far (HTJ.out.mono (belA (.cells #[.slice hd.ao vs.length hd.cap] 96))) hgr4 (fun j e => by have := (hol j e).1; exact ⟨by have := HBZ.out; omega, fun hp => by have := hlw.2 hp; omega⟩))
        have HR4 := hide (show ∀ r ∈ rows ++ [(⟨hd, vs⟩ : VL)], r.In Y4 ∧ RowOk (cols.map Col.typ) r.l ∧ (0 < r.l.length → Z.heap.size ≤ r.h.b ∧ rv4.ownBlock ≠ some r.h.b) from fun r hr => by
          have hnew : ∀ r : VL, r.In wr → (0 < r.l.length → u.ownBlock ≠ some r.h.b) → r.In Y4 ∧ (0 < r.l.length → rv4.ownBlock ≠ some r.h.b) := fun r h1 h2 => by
            have h3 := h1.mono (belA (.cells #[.slice hd.ao vs.length hd.cap] 96))
            refine ⟨⟨row_any h3.1 hgr4 (fun hp e => h2 hp e.symm), h3.2⟩, fun hp e => ?_⟩
            rcases hblk4 with hb4 | hb4
            · exact h2 hp (by rw [← hb4]; exact e)
            · rw [hb4] at e
              injection e with e
              have h5 := h1.1.blk hp
              rw [World.size_alloc] at e
              omega
          rcases List.mem_append.1 hr with hr | hr
          · obtain ⟨k1, k2, k3⟩ := HRM.out r hr
            obtain ⟨k4, k5⟩ := hnew r (HRW.out r hr) (fun hp => (k3 hp).2)
            exact ⟨k4, k2, fun hp => ⟨(k3 hp).1, k5 hp⟩⟩
          · rw [List.mem_singleton.1 hr]
            obtain ⟨k4, k5⟩ := hnew ⟨hd, vs⟩ HVI.out (fun hp e => by
              have h1 := HVB.out hp
              have h2 : hd.b < M.heap.size := (HOB.out _ e).2
              omega)
            exact ⟨k4, HROK.out, fun hp => ⟨Nat.le_trans hzm (HVB.out hp), k5 hp⟩⟩)
        clear hown4 hgr4 hblk4 hol hlw
        go_roundw
        case rel => exact ⟨c - 1, aj, rows ++ [(⟨hd, vs⟩ : VL)], rv4, rfl, by go_num, by rw [List.length_append]; simp only [List.length_cons, List.length_nil]; omega, HG4, HT4, hide (by have := HAJ.out; have := HAM.out; rw [List.length_append]; simp only [List.length_cons, List.length_nil]; omega), HO4, HR4⟩
        case measure => simp [intOf]; omega
    · have hc0 : c = 0 := by omega
      have HCK := hide (show rows.length ≤ n from by omega)
      clear hck
      subst hc0
      obtain ⟨hd, hu, hrow, hown⟩ := own_rowE (cells := VL.cells) (fun _ => rfl) (by decide) HOM.out
      subst hu
      have HRO := hide (And.intro hrow hown)
      clear hrow hown
      have HOT2 := hide ((HOT.out.kept (only_below HZB.out none) (Classical.em _)).kept HGM.out (.inr (fun e => by have := (HOT.out.lt _ e).1; have := HWZ.out; omega)))
      have HBS2 := hide ((HBS.out.below HZB.out).grown HGM.out (by intro e; injection e with e; omega))
      have HB62 := hide ((HB6.out.below HZB.out).grown HGM.out (by intro e; injection e with e; omega))
      have HB72 := hide ((HB7.out.below HZB.out).grown HGM.out (by intro e; injection e with e; omega))
      have HOTL := hide (show ∀ j, tv.ownBlock = some j → w.heap.size + 3 ≤ j ∧ j < Z.heap.size from fun j e => by have := HOT.out.lt j e; have := HWZ.out; omega)
      have htn : tabs.length ≤ 6 := by have := HTL.out; omega
      have m0 := HB72.out.cell (j := 0) rfl
      have hsz3 : w.heap.size + 3 ≤ Z.heap.size := by have := HB7.out.lt; omega
      go_wp2_with (at_builtin; refine wpList_append_own_at _ rfl _ _ 44 rfl (w.heap.size + 3) 49 it (.slice none 0 0) 1 24 Tryz.underlying44 HIT.out.1 HIT.out.2.1 HIT.out.2.2.1 HIT.out.2.2.2 rfl (by decide) _ tabs.length (tabs.flatMap RL.cells) rfl (HOT2.out.alloc _) ⟨M.heap.size, 0, none⟩ 1 1 [.slice hd.ao rows.length hd.cap] rfl rfl (new_cells (l := [.slice hd.ao rows.length hd.cap])) (by intro a ha; rw [List.mem_singleton.1 ha]; rfl) (by unfold maxLen; omega) (by omega) (by simp; omega) ?_; intro tv4 Y4 hown4 hgr4 _ hblk4; obtain ⟨g4, cap4, rfl, _, _⟩ := World.ownsRow.form hown4 (by omega); have HO3 := hide hown4; have HG3 := hide (show (M.alloc (.cells #[.slice hd.ao rows.length hd.cap] 49)).grownBy Y4 tv.ownBlock from hgr4); have HBL3 := hide (show (Value.slice (some ⟨g4, 0, none⟩) (tabs.length + 1) cap4).ownBlock = tv.ownBlock ∨ (Value.slice (some ⟨g4, 0, none⟩) (tabs.length + 1) cap4).ownBlock = some (M.alloc (.cells #[.slice hd.ao rows.length hd.cap] 49)).heap.size from hblk4); have hbx3 := (HB72.out.below (belA (.cells #[.slice hd.ao rows.length hd.cap] 49))).grown hgr4 (fun e => by have := (HOTL.out _ e.symm).1; omega); have HBX3 := hide hbx3; have m0b := hbx3.cell (j := 0) rfl; have f0b := hbx3.fr 0; clear hown4 hgr4 hblk4 hbx3)
      obtain ⟨hrow, hown⟩ := HRO.out
      have hsm := HGM.out.size
      have hhi : RL.Hi ⟨hd, rows⟩ Z.heap.size := ⟨fun hp => (hown hp).1, fun r hr hp => ((HRM.out r hr).2.2 hp).1⟩
      have hrin : RL.In M ⟨hd, rows⟩ := ⟨hrow, fun r hr => (HRM.out r hr).1⟩
      have hgs := gb_set Y4 (w.heap.size + 1 + 1) 0 (.slice (some ⟨g4, 0, none⟩) (tabs.length + 1) cap4)
      have hg3 := HG3.out
      have hbl3 := HBL3.out
      have hotl := HOTL.out
      have HBX4 := hide (HBX3.out.set 0 (.slice (some ⟨g4, 0, none⟩) (tabs.length + 1) cap4))
      have HGF := hide (show w.grownBy (Y4.setCell ⟨w.heap.size + 1 + 1, 0, none⟩ (.slice (some ⟨g4, 0, none⟩) (tabs.length + 1) cap4)) (some b) from
        ((HGZ.out.trans (HGM.out.trans (only_below (belA (.cells #[.slice hd.ao rows.length hd.cap] 49)) (some b)))).andThen hg3 (fun j e => .inl (by have := (hotl j e).1; omega))).andThen hgs (fun j e => .inl (by injection e with e; omega)))
      have hlw := HLW.out
      have HTF := hide (tape_far (tape_far (HTM.out.mono (belA (.cells #[.slice hd.ao rows.length hd.cap] 49))) hg3 (fun j e => by have := (hotl j e).1; exact ⟨by omega, fun hp => by have := hlw.2 hp; omega⟩)) hgs (fun j e => by injection e with e; exact ⟨by omega, fun hp => by have := hlw.2 hp; omega⟩))
      have HBSF := hide (((HBS2.out.below (belA (.cells #[.slice hd.ao rows.length hd.cap] 49))).grown hg3 (fun e => by have := (hotl _ e.symm).1; omega)).grown hgs (by intro e; injection e with e; omega))
      have HB6F := hide (((HB62.out.below (belA (.cells #[.slice hd.ao rows.length hd.cap] 49))).grown hg3 (fun e => by have := (hotl _ e.symm).1; omega)).grown hgs (by intro e; injection e with e; omega))
      have HOF := hide (show (Y4.setCell ⟨w.heap.size + 1 + 1, 0, none⟩ (.slice (some ⟨g4, 0, none⟩) (tabs.length + 1) cap4)).ownsRow (w.heap.size + 3) 49 1 (.slice (some ⟨g4, 0, none⟩) (tabs.length + 1) cap4) (tabs ++ [(⟨hd, rows⟩ : RL)]).length ((tabs ++ [(⟨hd, rows⟩ : RL)]).flatMap RL.cells) from by
        rw [rows_snoc, List.length_append]
        exact HO3.out.kept hgs (.inr (fun e => by have := (HO3.out.lt _ e).1; omega)))
      have HTF2 := hide (show ∀ R ∈ tabs ++ [(⟨hd, rows⟩ : RL)], R.In (Y4.setCell ⟨w.heap.size + 1 + 1, 0, none⟩ (.slice (some ⟨g4, 0, none⟩) (tabs.length + 1) cap4)) ∧ R.Hi (w.heap.size + 3) ∧ ∀ j, (Value.slice (some ⟨g4, 0, none⟩) (tabs.length + 1) cap4).ownBlock = some j → R.Off j from fun R hR => by
        have key : ∀ R : RL, R.In M → R.Hi (w.heap.size + 3) → (∀ j, tv.ownBlock = some j → R.Off j) → R.In (Y4.setCell ⟨w.heap.size + 1 + 1, 0, none⟩ (.slice (some ⟨g4, 0, none⟩) (tabs.length + 1) cap4)) ∧ R.Hi (w.heap.size + 3) ∧ ∀ j, (Value.slice (some ⟨g4, 0, none⟩) (tabs.length + 1) cap4).ownBlock = some j → R.Off j := fun R k1 k2 k3 => by
          refine ⟨((k1.mono (belA (.cells #[.slice hd.ao rows.length hd.cap] 49))).any hg3 k3).any hgs (fun j e => by injection e with e; rw [← e]; exact k2.off (by omega)), k2, fun j e => ?_⟩
          rcases hbl3 with h | h
          · exact k3 j (by rw [← h]; exact e)
          · rw [h] at e
            injection e with e
            rw [World.size_alloc] at e
            obtain ⟨l1, l2⟩ := k1.lt
            exact ⟨fun hp e2 => by have := l1 hp; omega, fun r hr hp e2 => by have := l2 r hr hp; omega⟩
        rcases List.mem_append.1 hR with hR | hR
        · obtain ⟨k1, k2, k3⟩ := HTB.out R hR
          exact key R ((k1.mono HZB.out).any HGM.out (fun j e => by injection e with e; rw [← e]; exact k2.off (by omega))) k2 k3
        · rw [List.mem_singleton.1 hR]
          exact key _ hrin ⟨fun hp => Nat.le_trans hsz3 (hhi.1 hp), fun r hr hp => Nat.le_trans hsz3 (hhi.2 r hr hp)⟩ (fun j e => hhi.off (hotl j e).2))
      have HFF := hide (show ∀ (m : Nat) (R : RL) (ty : List Int), (tabs ++ [(⟨hd, rows⟩ : RL)])[m]? = some R → (colT s)[m]? = some ty → R.l.length ≤ n ∧ ∀ v ∈ R.l, RowOk ty v.l from fun m R ty h1 h2 => by
        by_cases hm : m < tabs.length
        · rw [List.getElem?_append_left hm] at h1
          exact HFI.out m R ty h1 h2
        · have hm1 := (List.getElem?_eq_some_iff.1 h1).1
          rw [List.length_append] at hm1
          simp only [List.length_cons, List.length_nil] at hm1
          have hme : m = tabs.length := by omega
          subst hme
          rw [List.getElem?_append_right (Nat.le_refl _), Nat.sub_self] at h1
          injection h1 with h1
          rw [HTL.out, HTY.out] at h2
          injection h2 with h2
          rw [← h1, ← h2]
          exact ⟨HCK.out, fun v hv => (HRM.out v hv).2.1⟩)
      clear hrow hown hhi hrin hgs hg3 hbl3 hotl hlw m0 m0b f0b
      generalize Y4.setCell ⟨w.heap.size + 1 + 1, 0, none⟩ (.slice (some ⟨g4, 0, none⟩) (tabs.length + 1) cap4) = Y5 at *
      go_roundw
      case rel => exact ⟨k + 1, am, _, tabs ++ [(⟨hd, rows⟩ : RL)], by omega, by rw [List.length_append]; simp only [List.length_cons, List.length_nil]; have := HTL.out; omega, by go_num, HGF, HTF, hide (by have := HAM.out; have := HAK.out; have := HCK.out; omega), HBSF, HB6F, HBX4, HOF, HTF2, HFF⟩
      case measure => simp [intOf]; omega
  · have hke : k = s.tabs.length := by omega
    have htl := HTL.out
    obtain ⟨hd, htv, hrow, hown⟩ := own_rowE (cells := RL.cells) (fun _ => rfl) (by decide) HOT.out
    subst htv
    have m0 := HB7.out.cell (j := 0) rfl
    have o0 := HB6.out.cell (j := 0) rfl
    have of := HB6.out.fr 0
    have hgs := gb_set wr (w.heap.size + 1) 0 (.slice hd.ao tabs.length hd.cap)
    have HFIN := hide (show FactPost w b L (colT s) n (.returned (.agg #[.slice hd.ao tabs.length hd.cap])) (wr.setCell ⟨w.heap.size + 1, 0, none⟩ (.slice hd.ao tabs.length hd.cap)) from by
      have hlw := HLW.out
      refine ⟨⟨hd, tabs⟩, ak, rfl, ⟨row_any hrow hgs (fun hp e => by injection e with e; have e : hd.b = w.heap.size + 1 := e; have := (hown hp).1; omega), fun R hR => (HTB.out R hR).1.any hgs (fun j e => by injection e with e; rw [← e]; exact (HTB.out R hR).2.1.off (by omega))⟩, ⟨by show tabs.length = _; rw [htl, hke]; exact (List.length_map _).symm, fun R hR => ?_, fun m R ty h1 h2 v hv => ((HFI.out m R ty h1 h2).2 v hv)⟩, tape_far HTP.out hgs (fun j e => by injection e with e; exact ⟨by omega, fun hp => by have := hlw.2 hp; omega⟩), HG.out.andThen hgs (fun j e => .inl (by injection e with e; omega))⟩
      obtain ⟨m, hm, rfl⟩ := List.getElem_of_mem hR
      have hm : m < tabs.length := hm
      have hmt : m < (colT s).length := by show m < (s.tabs.map _).length; rw [List.length_map]; omega
      exact (HFI.out m _ _ (List.getElem?_eq_getElem hm) (List.getElem?_eq_getElem hmt)).1)
    clear hrow hown hgs hke htl
    go_wp2
    refine bodyPost_ret (v := .agg #[.slice hd.ao tabs.length hd.cap]) ?_ ?_ ?_
    case refine_3 => exact HFIN.out
    case refine_2 => rfl
    simp [results, Tryz.results17, go_sem, m0, o0]
end Go.Proofs.YtiijaaohphokcaaGreatDoor

/- fault.Eval: one operation over leaves, inverted. field.Num, Do, Int. -/
import Derived.Test.YtlkhiihehaiinaaDoorFSw
import Derived.Deep.RegionHeld3
namespace Go.Proofs.YtlkhiihehaiinaaDoor
open Go.RowKit

/-- The expression's box and, behind it, a value's. -/
def SV (w : World) (cs : Array Value) (x : World) : Prop := Below w.heap.size w x ∧ Box x w.heap.size cs 31 ∧ ∃ v0 v1 v2, Box x (w.heap.size + 1) #[v0, v1, v2] 24
theorem SV.drew {w x : World} {cs : Array Value} (h : SV w cs x) : SV w cs x.drew := ⟨h.1.drew, h.2.1, by obtain ⟨v0, v1, v2, hb⟩ := h.2.2; exact ⟨v0, v1, v2, hb⟩⟩
theorem SV.call {w x y : World} {cs : Array Value} (h : SV w cs x) (hb : Below x.heap.size x y) : SV w cs y := ⟨bel_trans h.1 (hb.mono (Nat.le_refl _)), h.2.1.below hb, by obtain ⟨v0, v1, v2, hq⟩ := h.2.2; exact ⟨v0, v1, v2, hq.below hb⟩⟩
theorem SV.below {w x : World} {cs : Array Value} (h : SV w cs x) : Below w.heap.size w x := h.1
theorem SV.set {w x : World} {cs : Array Value} (h : SV w cs x) (a b c : Value) : SV w cs (((x.setCell ⟨w.heap.size + 1, 0, none⟩ a).setCell ⟨w.heap.size + 1, 1, none⟩ b).setCell ⟨w.heap.size + 1, 2, none⟩ c) := by
  obtain ⟨h1, h2, v0, v1, v2, hq⟩ := h
  exact ⟨belset3 h1 (Nat.le_refl _) (Nat.le_succ _) _ _ _, h2.grown (set3 _ _ _ _ _) (by simp), a, b, c, boxs3 hq _ _ _⟩
theorem FW.below2 {w x : World} (h : FW w) (hb : Below w.heap.size w x) : FW x := h.below hb
set_option maxRecDepth 100000 in
set_option maxHeartbeats 8000000 in
theorem feval_inv (l : IL) (o : Nat) (typ num : Int) (text : ByteArray) (col : Int) (kh : Hd) (kids : List Ex) (r : VL) (w : World) (hfw : FW w) (hll : l.In w) (hl0 : 0 < l.l.length) (hlm : l.l.length ≤ 1000) (hany : anyS l.l = true) (he : Ex.In w ⟨o, typ, num, text, col, kh, kids⟩) (hl : Ex.Low ⟨o, typ, num, text, col, kh, kids⟩) (hr : r.In w) (hn : NulAt w) (hf : OpsAt w)
    (ho : o < 29) (hfit : fitsB o kids.length = true) (hkf : ∀ k ∈ kids, fitsB k.op k.kids.length = false) (hb4 : wrongF (hitS l.l) (116 + o) = false) (hb3 : wrongF (hitS l.l) (87 + o) = false) (hb2 : wrongF (hitS l.l) (58 + o) = false) (hb1 : wrongF (hitS l.l) (29 + o) = false) (hb0 : wrongF (hitS l.l) (0 + o) = true) :
    Calls Tryd.prog 10 #[.slice l.h.ao l.l.length l.h.cap, .agg #[.int .i64 (o : Nat), .int .i64 typ, .int .i64 num, .string text, .int .i64 col, .slice kh.ao kids.length kh.cap], .slice r.h.ao r.l.length r.h.cap] w
      fun e' w' => e' = .returned (.agg #[.int .i64 (invV (appV o (kids.map (Ex.va r.l)))).kind, .int .i64 (invV (appV o (kids.map (Ex.va r.l)))).num, .string (invV (appV o (kids.map (Ex.va r.l)))).text]) ∧ Below w.heap.size w w' := by
  have HON := hide (fun (W : World) (hb : Below w.heap.size w W) => on_any l W (hll.mono hb) hl0 hlm (hfw.below hb))
  have HNODE := hide (fun (g m : Nat) (W : World) (hb : Below w.heap.size w W) (hsw : Sw W g m (wrongF (hitS l.l))) (htx : Texts W m (hitS l.l) (anyS l.l)) => fnode g m (wrongF (hitS l.l)) (hitS l.l) o typ num text col kh kids r W ⟨hsw, hany ▸ htx, hn.mono hb, hf.mono hb⟩ (he.mono hb) hl (hr.mono hb) ho hfit hkf hb4 hb3 hb2 hb1 hb0)
  obtain ⟨v, hv⟩ : ∃ v, invV (appV o (kids.map (Ex.va r.l))) = v := ⟨_, rfl⟩
  rw [hv] at HNODE ⊢
  obtain ⟨W, hW⟩ : ∃ W, (w.alloc (.cells #[.int .i64 (o : Nat), .int .i64 typ, .int .i64 num, .string text, .int .i64 col, .slice kh.ao kids.length kh.cap] 31)).alloc (.cells #[.int .i64 0, .int .i64 0, .string ⟨#[]⟩] 24) = W := ⟨_, rfl⟩
  have HS0 := hide (show SV w #[.int .i64 (o : Nat), .int .i64 typ, .int .i64 num, .string text, .int .i64 col, .slice kh.ao kids.length kh.cap] W from by rw [← hW]; exact ⟨belAA _ _, (Box.new _ _ _).below (belA _), _, _, _, by have h := Box.new (w.alloc (.cells #[.int .i64 (o : Nat), .int .i64 typ, .int .i64 num, .string text, .int .i64 col, .slice kh.ao kids.length kh.cap] 31)) #[.int .i64 0, .int .i64 0, .string ⟨#[]⟩] 24; simpa only [World.size_alloc] using h⟩)

  have hy0 : ∀ w' : World, SV w #[.int .i64 (o : Nat), .int .i64 typ, .int .i64 num, .string text, .int .i64 col, .slice kh.ao kids.length kh.cap] w' → w'.cell? ⟨w.heap.size, 0, none⟩ = some (.int .i64 (o : Nat)) := fun w' h => h.2.1.cell (j := 0) rfl
  have hy1 : ∀ w' : World, SV w #[.int .i64 (o : Nat), .int .i64 typ, .int .i64 num, .string text, .int .i64 col, .slice kh.ao kids.length kh.cap] w' → w'.cell? ⟨w.heap.size, 1, none⟩ = some (.int .i64 typ) := fun w' h => h.2.1.cell (j := 1) rfl
  have hy2 : ∀ w' : World, SV w #[.int .i64 (o : Nat), .int .i64 typ, .int .i64 num, .string text, .int .i64 col, .slice kh.ao kids.length kh.cap] w' → w'.cell? ⟨w.heap.size, 2, none⟩ = some (.int .i64 num) := fun w' h => h.2.1.cell (j := 2) rfl
  have hy3 : ∀ w' : World, SV w #[.int .i64 (o : Nat), .int .i64 typ, .int .i64 num, .string text, .int .i64 col, .slice kh.ao kids.length kh.cap] w' → w'.cell? ⟨w.heap.size, 3, none⟩ = some (.string text) := fun w' h => h.2.1.cell (j := 3) rfl
  have hy4 : ∀ w' : World, SV w #[.int .i64 (o : Nat), .int .i64 typ, .int .i64 num, .string text, .int .i64 col, .slice kh.ao kids.length kh.cap] w' → w'.cell? ⟨w.heap.size, 4, none⟩ = some (.int .i64 col) := fun w' h => h.2.1.cell (j := 4) rfl
  have hy5 : ∀ w' : World, SV w #[.int .i64 (o : Nat), .int .i64 typ, .int .i64 num, .string text, .int .i64 col, .slice kh.ao kids.length kh.cap] w' → w'.cell? ⟨w.heap.size, 5, none⟩ = some (.slice kh.ao kids.length kh.cap) := fun w' h => h.2.1.cell (j := 5) rfl
  clear hfw hll hany he hl hr hn hf hfit hkf hb4 hb3 hb2 hb1 hb0 hv
  go_enter Tryd.func10, Tryd.ntmps10
  go_wp2
  clear hW
  go_region_held3 (fun w' => SV w #[.int .i64 (o : Nat), .int .i64 typ, .int .i64 num, .string text, .int .i64 col, .slice kh.ao kids.length kh.cap] w') ((with_reducible first | assumption | exact HS0.out.drew | exact SV.set (by assumption) _ _ _)) (first
    | (go_at_call 26; refine (HON.out _ (SV.below (cs := #[.int .i64 (o : Nat), .int .i64 typ, .int .i64 num, .string text, .int .i64 col, .slice kh.ao kids.length kh.cap]) (by first | exact HS0.out.drew | assumption))).mono ?_; rintro e x1 ⟨⟨g, m, rfl, hsw, htx⟩, hb1⟩; have HS1 := SV.call (w := w) (cs := #[.int .i64 (o : Nat), .int .i64 typ, .int .i64 num, .string text, .int .i64 col, .slice kh.ao kids.length kh.cap]) (by first | exact HS0.out.drew | assumption) hb1)
    | (go_at_call 27; refine (HNODE.out g m _ (SV.below (cs := #[.int .i64 (o : Nat), .int .i64 typ, .int .i64 num, .string text, .int .i64 col, .slice kh.ao kids.length kh.cap]) (by assumption)) hsw htx).mono ?_; rintro e x2 ⟨rfl, hb2⟩; have HS2 := SV.call (w := w) (cs := #[.int .i64 (o : Nat), .int .i64 typ, .int .i64 num, .string text, .int .i64 col, .slice kh.ao kids.length kh.cap]) (by assumption) hb2; obtain ⟨v0, v1, v2, hq⟩ := HS2.2.2; have e0 := hq.cell (j := 0) rfl; have e1 := hq.cell (j := 1) rfl; have e2 := hq.cell (j := 2) rfl; have f0 := hq.fr 0; have f1 := hq.fr 1; have f2 := hq.fr 2; clear hq))
  go_wp2
  exact bodyPost_ret (v := .agg #[.int .i64 v.kind, .int .i64 v.num, .string v.text]) (by simp [results, Tryd.results10, go_sem, e0, e1, e2]) rfl ⟨rfl, belset3 HS2.1 (Nat.le_refl _) (Nat.le_succ _) _ _ _⟩
end Go.Proofs.YtlkhiihehaiinaaDoor

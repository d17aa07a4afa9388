/- A range over an iterator that keeps a state of its own in cells, none of whose rounds leaves the loop. -/
import Derived.RangeFuncNested
namespace Go
open Go.RowKit
variable {F : Fence} {n : Nat} {P : Program}

/-- Blocks that lie as they lay. -/
def SameAt (S : List Nat) (X Y : World) : Prop := ∀ k ∈ S, Y.heap[k]? = X.heap[k]?
theorem SameAt.refl (S : List Nat) (X : World) : SameAt S X X := fun _ _ => rfl
theorem SameAt.trans {S : List Nat} {X Y Z : World} (h : SameAt S X Y) (k : SameAt S Y Z) : SameAt S X Z := fun j hj => (k j hj).trans (h j hj)
theorem SameAt.putObj {S : List Nat} {W : World} {l : Nat} (o : Obj) (h : ∀ k ∈ S, k ≠ l) : SameAt S W (W.putObj l o) := fun k hk => World.putObj_heap_other (h k hk)
theorem SameAt.below {S : List Nat} {B : Nat} {X Y : World} (h : Below B X Y) (hS : ∀ k ∈ S, k < B) : SameAt S X Y := fun k hk => h.block k (hS k hk)

/-- The iterator calls yield at each of xs in turn; between its calls it makes steps A; a round keeps the blocks S. -/
def SeqAll {α : Type} (F : Fence) (n : Nat) (P : Program) (g : Nat) (lb : Array Value) (encs : α → Array Value) (A : World → World → Prop) (S : List Nat) (xs : List α) (W : World) : Prop :=
  ∀ (l : Nat) (J : List α → World → Prop), (∀ s X Y, J s X → A X Y → J s Y) →
    (∀ pre x X, J pre X → pre ++ [x] <+: xs → YieldAt F (n - 1) P l (encs x) X fun e Y => e = .returned (.bool true) ∧ J (pre ++ [x]) Y ∧ SameAt S X Y) →
    J [] W → CallsIn F n P g (#[.func (.yield l) #[] #[]] ++ lb) W fun e Y => (∃ v, e = .returned v) ∧ J xs Y
theorem SeqAll.inRound {α : Type} {g : Nat} {lb : Array Value} {encs : α → Array Value} {A : World → World → Prop} {S : List Nat} {xs : List α} {W : World} (l : Nat) (h : SeqAll F n P g lb encs A S xs W) : SeqAll (F.inRound l) n P g lb encs A S xs W := h

/-- What a round leaves. -/
def allPost (B : Nat) (S : List Nat) (p : World → Prop) (W : World) : Exit → Act → World → Prop
  | .normal, _, W' => KeepsFrom B W W' ∧ SameAt S W W' ∧ p W'
  | _, _, _ => False

/-- One round. -/
theorem yield_all {m l : Nat} {r : Loop} {args : Array Value} {W : World} {R : World → Prop} (hfn : F.fn r.fn) (hl : W.heap[l]? = some (.loop r)) (hr : r.state = .ready) (hsz : args.size = r.params.size)
    (h : r.assign.wpIn (F.inRound l) m P (Exit.then (fun a1 W1 => W1.heap[l]? = some (.loop r) ∧ r.body.wpIn (F.inRound l) m P (fun e _ W3 => e = .normal ∧ W3.heap[l]? = some (.loop { r with state := .busy }) ∧ R (W3.putObj l (.loop { r with state := .ready, pending := none }))) a1 (W1.putObj l (.loop { r with state := .busy }))) (fun _ _ _ => False))
      { tmps := (r.params.zip args).foldl (fun t (p, v) => t.setIfInBounds p v) r.tmps, defers := [] } W) :
    YieldAt F m P l args W fun e W' => e = .returned (.bool true) ∧ R W' := by
  refine ⟨r.fn, _, r.assign, r.body, run_yield hl hsz, roundIn_of_wpIn hfn (wpIn_mono h ?_)⟩
  intro e a1 W1 hp
  cases e with
  | normal =>
    obtain ⟨hl1, hb⟩ := hp
    refine ⟨_, run_beginRound hl1 hr, wpIn_mono hb ?_⟩
    rintro e a3 W3 ⟨rfl, hl3, hR⟩
    exact ⟨_, _, run_endRound (P := P) none hl3, rfl, hR⟩
  | _ => exact hp

theorem wpIn_rangeAll {α : Type} {g : Operand} {ps : Array Tmp} {assign body : Code} {Q : Exit → Act → World → Prop} {a : Act} {w : World}
    (hro : F.round = none) (h1 : 1 ≤ n) {gf : Nat} {lb : Array Value} (hg : a.eval g = .func (.func gf) #[] lb) (hFg : F.fn gf) (eg : ∀ args w, (callFunc gf args).run P w = .ok (.enter gf args) w)
    {encs : α → Array Value} {A : World → World → Prop} {S : List Nat} {xs : List α} (hseq : ∀ W1, Below w.heap.size w W1 → SeqAll F (n - 1) P gf lb encs A S xs W1)
    (hA : ∀ X Y (l : Nat) (o : Obj), A X Y → X.heap[l]? = some o → o.isCells = false → Y.heap[l]? = some o) (hS : ∀ k ∈ S, k < w.heap.size) (hps : ∀ x, (encs x).size = ps.size)
    (I : List α → World → Prop) (hI : OwnFrom w.heap.size I) (hIA : ∀ s X Y, I s X → A X Y → I s Y) (h0 : I [] w) (Ax : α → Act → World → Prop) (hAx : ∀ x a', OwnFrom w.heap.size (fun (_ : Unit) W => Ax x a' W))
    (hassign : ∀ (l : Nat) (pre : List α) (x : α) (W : World) (K : Act → World → Prop), I pre W → (∀ a' W', KeepsFrom w.heap.size W W' → SameAt S W W' → I pre W' → Ax x a' W' → K a' W') →
      assign.wpIn (F.inRound l) (n - 1 - 1) P (Exit.then K (fun _ _ _ => False)) { tmps := (ps.zip (encs x)).foldl (fun t (p, v) => t.setIfInBounds p v) a.tmps, defers := [] } W)
    (hbody : ∀ (l : Nat) (pre : List α) (x : α) (a' : Act) (W : World), w.heap.size ≤ l → (∃ r, W.heap[l]? = some (.loop r)) → I pre W → Ax x a' W → pre ++ [x] <+: xs → body.wpIn (F.inRound l) (n - 1 - 1) P (allPost w.heap.size S (I (pre ++ [x])) W) a' W)
    (hdone : ∀ (D : Nat) (W : World), w.heap.size ≤ D → I xs W → W.heap[D]? = some (.deferred (some [])) → Q .normal { a with defers := { target := .collected D, args := #[] } :: a.defers } W) :
    (Code.rangeFunc g ps assign body).wpIn F n P Q a w := by
  refine wpIn_rangeFunc fun fn hfn => ?_
  rw [hro]
  let r : Loop := { state := .ready, pending := none, fn, tmps := a.tmps, params := ps, assign, body, defers := w.heap.size }
  let W1 := (w.alloc (.deferred (some []))).alloc (.loop r)
  have hL1 : W1.heap[w.heap.size + 1]? = some (.loop r) := by
    have h := World.alloc_heap_new (w.alloc (.deferred (some []))) (.loop r)
    rwa [World.size_alloc] at h
  have hK1 : W1.heap[w.heap.size]? = some (.deferred (some [])) := (Below.heap_alloc _ _ _ (by simp)).trans (World.alloc_heap_new w _)
  have hb1 : Below w.heap.size w W1 := ((Below.refl _ w).alloc (Nat.le_refl _) _).alloc (by simp) _
  refine ⟨w.heap.size + 1, [{ target := .collected w.heap.size, args := #[] }], W1, { target := .fn (.func gf) lb, args := #[.func (.yield (w.heap.size + 1)) #[] #[]] }, W1, gf,
    #[.func (.yield (w.heap.size + 1)) #[] #[]] ++ lb, W1, run_enterLoop_outer _ _ _ _ _, ?_, ?_, ?_, fun _ => h1, ?_⟩
  · simp only [resolve, hg]
    simp [go_sem]
  · intro f' hf'
    simp [Target.leads] at hf'
    subst hf'
    exact hFg
  · simp [invoke, go_sem, eg]
  · refine (hseq W1 hb1 (w.heap.size + 1) (fun pre W => I pre W ∧ W.heap[w.heap.size + 1]? = some (.loop r) ∧ W.heap[w.heap.size]? = some (.deferred (some [])))
      (fun s X Y hs hxy => ⟨hIA s X Y hs.1 hxy, hA X Y _ _ hxy hs.2.1 rfl, hA X Y _ _ hxy hs.2.2 rfl⟩) ?_ ⟨hI.alloc _ (hI.alloc _ h0), hL1, hK1⟩).mono ?_
    · rintro pre x X ⟨hi, hl, hk⟩ hpx
      have hne : ∀ k ∈ S, k ≠ w.heap.size + 1 := fun k hk e => by have := hS k hk; omega
      refine yield_all (r := r) hfn hl rfl (hps x) (hassign _ pre x X _ hi fun a' Wa hka hsa hia hax => ?_)
      have hla := hka.same _ _ (by omega) hl rfl
      have hka' := hka.same _ _ (Nat.le_refl _) hk rfl
      have hlt : w.heap.size + 1 < Wa.heap.size := (Array.getElem?_eq_some_iff.1 hla).1
      have hl2 : (Wa.putObj (w.heap.size + 1) (.loop { r with state := .busy })).heap[w.heap.size + 1]? = some (.loop { r with state := .busy }) := World.putObj_heap_same hlt
      have hk2 : (Wa.putObj (w.heap.size + 1) (.loop { r with state := .busy })).heap[w.heap.size]? = some (.deferred (some [])) := (World.putObj_heap_other (by omega)).trans hka'
      refine ⟨hla, wpIn_mono (hbody _ pre x a' _ (by omega) ⟨_, hl2⟩ (hI.putObj _ hia (by omega) hla rfl) ((hAx x a').putObj (s := ()) _ hax (by omega) hla rfl) hpx) ?_⟩
      intro e a3 W3 hp
      cases e with
      | normal =>
        obtain ⟨hk3, hs3, hi3⟩ := hp
        have hl3 := hk3.same _ _ (by omega) hl2 rfl
        have hd3 := hk3.same _ _ (Nat.le_refl _) hk2 rfl
        have hlt3 : w.heap.size + 1 < W3.heap.size := (Array.getElem?_eq_some_iff.1 hl3).1
        exact ⟨rfl, hl3, ⟨hI.putObj _ hi3 (by omega) hl3 rfl, World.putObj_heap_same hlt3, (World.putObj_heap_other (by omega)).trans hd3⟩, ((hsa.trans (SameAt.putObj _ hne)).trans hs3).trans (SameAt.putObj _ hne)⟩
      | _ => exact hp.elim
    · rintro e W2 ⟨⟨v, rfl⟩, hi, hl, hk⟩
      exact ⟨none, _, run_endLoop (P := P) hl (by simp [r]), hdone _ _ (Nat.le_refl _) (hI.putObj _ hi (by omega) hl rfl) ((World.putObj_heap_other (by omega)).trans hk)⟩

theorem wpIn_rangeAllN {α : Type} {g : Operand} {ps : Array Tmp} {assign body : Code} {Q : Exit → Act → World → Prop} {a : Act} {w : World}
    {l₀ : Nat} {r₀ : Loop} (hro : F.round = some l₀) (hl₀ : w.heap[l₀]? = some (.loop r₀)) (h1 : 1 ≤ n) {gf : Nat} {lb : Array Value} (hg : a.eval g = .func (.func gf) #[] lb) (hFg : F.fn gf) (eg : ∀ args w, (callFunc gf args).run P w = .ok (.enter gf args) w)
    {encs : α → Array Value} {A : World → World → Prop} {S : List Nat} {xs : List α} (hseq : ∀ W1, Below w.heap.size w W1 → SeqAll F (n - 1) P gf lb encs A S xs W1)
    (hA : ∀ X Y (l : Nat) (o : Obj), A X Y → X.heap[l]? = some o → o.isCells = false → Y.heap[l]? = some o) (hS : ∀ k ∈ S, k < w.heap.size) (hps : ∀ x, (encs x).size = ps.size)
    (I : List α → World → Prop) (hI : OwnFrom w.heap.size I) (hIA : ∀ s X Y, I s X → A X Y → I s Y) (h0 : I [] w) (Ax : α → Act → World → Prop) (hAx : ∀ x a', OwnFrom w.heap.size (fun (_ : Unit) W => Ax x a' W))
    (hassign : ∀ (l : Nat) (pre : List α) (x : α) (W : World) (K : Act → World → Prop), I pre W → (∀ a' W', KeepsFrom w.heap.size W W' → SameAt S W W' → I pre W' → Ax x a' W' → K a' W') →
      assign.wpIn (F.inRound l) (n - 1 - 1) P (Exit.then K (fun _ _ _ => False)) { tmps := (ps.zip (encs x)).foldl (fun t (p, v) => t.setIfInBounds p v) a.tmps, defers := [] } W)
    (hbody : ∀ (l : Nat) (pre : List α) (x : α) (a' : Act) (W : World), w.heap.size ≤ l → (∃ r, W.heap[l]? = some (.loop r)) → I pre W → Ax x a' W → pre ++ [x] <+: xs → body.wpIn (F.inRound l) (n - 1 - 1) P (allPost w.heap.size S (I (pre ++ [x])) W) a' W)
    (hdone : ∀ (W : World), I xs W → Q .normal a W) :
    (Code.rangeFunc g ps assign body).wpIn F n P Q a w := by
  refine wpIn_rangeFunc fun fn hfn => ?_
  rw [hro]
  let r : Loop := { state := .ready, pending := none, fn, tmps := a.tmps, params := ps, assign, body, defers := r₀.defers }
  let W1 := w.alloc (.loop r)
  have hL1 : W1.heap[w.heap.size]? = some (.loop r) := World.alloc_heap_new w _
  have hb1 : Below w.heap.size w W1 := (Below.refl _ w).alloc (Nat.le_refl _) _
  refine ⟨w.heap.size, [], W1, { target := .fn (.func gf) lb, args := #[.func (.yield w.heap.size) #[] #[]] }, W1, gf,
    #[.func (.yield w.heap.size) #[] #[]] ++ lb, W1, run_enterLoop_inner hl₀ _ _ _ _ _, ?_, ?_, ?_, fun _ => h1, ?_⟩
  · simp only [resolve, hg]
    simp [go_sem]
  · intro f' hf'
    simp [Target.leads] at hf'
    subst hf'
    exact hFg
  · simp [invoke, go_sem, eg]
  · refine (hseq W1 hb1 w.heap.size (fun pre W => I pre W ∧ W.heap[w.heap.size]? = some (.loop r))
      (fun s X Y hs hxy => ⟨hIA s X Y hs.1 hxy, hA X Y _ _ hxy hs.2 rfl⟩) ?_ ⟨hI.alloc _ h0, hL1⟩).mono ?_
    · rintro pre x X ⟨hi, hl⟩ hpx
      have hne : ∀ k ∈ S, k ≠ w.heap.size := fun k hk e => by have := hS k hk; omega
      refine yield_all (r := r) hfn hl rfl (hps x) (hassign _ pre x X _ hi fun a' Wa hka hsa hia hax => ?_)
      have hla := hka.same _ _ (Nat.le_refl _) hl rfl
      have hlt : w.heap.size < Wa.heap.size := (Array.getElem?_eq_some_iff.1 hla).1
      have hl2 : (Wa.putObj w.heap.size (.loop { r with state := .busy })).heap[w.heap.size]? = some (.loop { r with state := .busy }) := World.putObj_heap_same hlt
      refine ⟨hla, wpIn_mono (hbody _ pre x a' _ (Nat.le_refl _) ⟨_, hl2⟩ (hI.putObj _ hia (Nat.le_refl _) hla rfl) ((hAx x a').putObj (s := ()) _ hax (Nat.le_refl _) hla rfl) hpx) ?_⟩
      intro e a3 W3 hp
      cases e with
      | normal =>
        obtain ⟨hk3, hs3, hi3⟩ := hp
        have hl3 := hk3.same _ _ (Nat.le_refl _) hl2 rfl
        have hlt3 : w.heap.size < W3.heap.size := (Array.getElem?_eq_some_iff.1 hl3).1
        exact ⟨rfl, hl3, ⟨hI.putObj _ hi3 (Nat.le_refl _) hl3 rfl, World.putObj_heap_same hlt3⟩, ((hsa.trans (SameAt.putObj _ hne)).trans hs3).trans (SameAt.putObj _ hne)⟩
      | _ => exact hp.elim
    · rintro e W2 ⟨⟨v, rfl⟩, hi, hl⟩
      exact ⟨none, _, run_endLoop (P := P) hl (by simp [r]), hdone _ (hI.putObj _ hi (Nat.le_refl _) hl rfl)⟩
end Go

/- Conjunctive queries, plainly: queries that are equal as bags have the same rows but for their order. -/
import Derived.Test.YtiijaaohphokcaaGreatDoorG31
import Derived.Test.YtiijaaohphokcaaGreatDoorG06
import Derived.Test.YtiijaaohphokcaaGreatDoorEvKK
import Derived.ArgAppend
namespace Go.Proofs.YtiijaaohphokcaaGreatDoor
section
variable {K : Type}
def Ren (S : Nat → Prop) (g : Nat → Nat) (σ σ' : Vb K) : Prop := ∀ x, S x → σ' (g x) = σ x
def RelO (S : Nat → Prop) (g : Nat → Nat) (o o' : Option (Vb K)) : Prop := (o = none ∧ o' = none) ∨ ∃ a b, o = some a ∧ o' = some b ∧ Ren S g a b
theorem bindT_map {S : Nat → Prop} {g : Nat → Nat} {f : Nat → Tm K} (hf : ∀ x, S x → f x = .v (g x)) (hi : ∀ x y, S x → S y → g x = g y → x = y) {σ σ' : Vb K} (hr : Ren S g σ σ') {t : Tm K} (ht : ∀ x, t = .v x → S x) (u : K) : RelO S g (bindT σ t u) (bindT σ' (Tm.app f t) u) := by
  cases t with
  | c k =>
    simp only [Tm.app, bindT]
    split
    · exact .inr ⟨σ, σ', rfl, rfl, hr⟩
    · exact .inl ⟨rfl, rfl⟩
  | v x =>
    have hx := ht x rfl
    simp only [Tm.app]
    rw [hf x hx]
    simp only [bindT]
    rw [hr x hx]
    cases hs : σ x with
    | some z =>
      simp only
      split
      · exact .inr ⟨σ, σ', rfl, rfl, hr⟩
      · exact .inl ⟨rfl, rfl⟩
    | none =>
      refine .inr ⟨_, _, rfl, rfl, fun y hy => ?_⟩
      show (if g y = g x then some u else σ' (g y)) = (if y = x then some u else σ y)
      by_cases e : y = x
      · rw [if_pos (by rw [e]), if_pos e]
      · rw [if_neg (fun h => e (hi y x hy hx h)), if_neg e]
        exact hr y hy
theorem fitsL_map {S : Nat → Prop} {g : Nat → Nat} {f : Nat → Tm K} (hf : ∀ x, S x → f x = .v (g x)) (hi : ∀ x y, S x → S y → g x = g y → x = y) : ∀ {l : List (Tm K)} {row : List K} {σ σ' : Vb K}, Ren S g σ σ' → (∀ x, Tm.v x ∈ l → S x) → RelO S g (fitsL σ l row) (fitsL σ' (l.map (Tm.app f)) row)
  | [], _, σ, σ', hr, _ => .inr ⟨σ, σ', by simp [fitsL], by simp [fitsL], hr⟩
  | t :: l, [], σ, σ', hr, _ => .inr ⟨σ, σ', by simp [fitsL], by simp [fitsL], hr⟩
  | t :: l, u :: row, σ, σ', hr, hl => by
    show RelO S g ((bindT σ t u).bind fun s => fitsL s l row) ((bindT σ' (Tm.app f t) u).bind fun s => fitsL s (l.map (Tm.app f)) row)
    rcases bindT_map hf hi hr (t := t) (fun x e => hl x (by rw [e]; exact List.mem_cons_self)) u with ⟨h1, h2⟩ | ⟨a, b, h1, h2, h3⟩
    · rw [h1, h2]; exact .inl ⟨rfl, rfl⟩
    · rw [h1, h2]
      exact fitsL_map hf hi h3 (fun x hx => hl x (List.mem_cons_of_mem _ hx))
theorem evalL_map {S : Nat → Prop} {g : Nat → Nat} {f : Nat → Tm K} {D : Nat → List (List K)} {d : K} {hd : List (Tm K)} (hf : ∀ x, S x → f x = .v (g x)) (hi : ∀ x y, S x → S y → g x = g y → x = y) (hh : ∀ x, Tm.v x ∈ hd → S x) : ∀ {ls : List (Lt K)} {σ σ' : Vb K}, Ren S g σ σ' → (∀ l ∈ ls, ∀ x, Tm.v x ∈ l.2 → S x) → evalL D (headL d (hd.map (Tm.app f))) (ls.map (Lt.app f)) σ' = evalL D (headL d hd) ls σ
  | [], σ, σ', hr, _ => by
    show [headL d (hd.map (Tm.app f)) σ'] = [headL d hd σ]
    unfold headL
    rw [List.map_map]
    refine congrArg (fun x => [x]) (List.map_congr_left fun t ht => ?_)
    cases t with
    | c k => rfl
    | v x =>
      show (Tm.app f (.v x)).at _ = _
      have hx := hh x ht
      show (f x).at _ = (σ x).getD d
      rw [hf x hx]
      show (σ' (g x)).getD d = _
      rw [hr x hx]
  | l :: ls, σ, σ', hr, hl => by
    show (D l.1).flatMap _ = (D l.1).flatMap _
    refine congrArg (fun F => (D l.1).flatMap F) (funext fun row => ?_)
    rcases fitsL_map hf hi (l := l.2) (row := row) hr (hl l List.mem_cons_self) with ⟨h1, h2⟩ | ⟨a, b, h1, h2, h3⟩
    · show (match fitsL σ' (l.2.map (Tm.app f)) row with | none => [] | some s => _) = (match fitsL σ l.2 row with | none => [] | some s => _)
      rw [h1, h2]
    · show (match fitsL σ' (l.2.map (Tm.app f)) row with | none => [] | some s => _) = (match fitsL σ l.2 row with | none => [] | some s => _)
      rw [h1, h2]
      exact evalL_map hf hi hh h3 (fun m hm => hl m (List.mem_cons_of_mem _ hm))
theorem vb_eq {σ τ : Vb K} (d : K) (h1 : ∀ θ, σ.ext θ ↔ τ.ext θ) (h2 : ∀ y, σ y ≠ none ↔ τ y ≠ none) : σ = τ := by
  funext y
  cases hs : σ y with
  | none =>
    cases ht : τ y with
    | none => rfl
    | some u => exact absurd hs ((h2 y).2 (by rw [ht]; exact fun e => by cases e))
  | some u =>
    cases ht : τ y with
    | none => exact absurd ht ((h2 y).1 (by rw [hs]; exact fun e => by cases e))
    | some z =>
      have h3 : σ.ext (fun x => (σ x).getD d) := fun x v hx => by show (σ x).getD d = v; rw [hx]; rfl
      have h4 := (h1 _).1 h3 y z ht
      have h5 : (σ y).getD d = z := h4
      rw [hs] at h5
      have h5 : u = z := h5
      rw [h5]
theorem fits_swap {σ : Vb K} (d : K) {l m : List (Tm K)} {r s : List K} (hl : l.length = r.length) (hm : m.length = s.length) : ((fitsL σ l r).bind fun a => fitsL a m s) = ((fitsL σ m s).bind fun a => fitsL a l r) := by
  have key : ∀ {l m : List (Tm K)} {r s : List K}, l.length = r.length → m.length = s.length → ∀ a, ((fitsL σ l r).bind fun a => fitsL a m s) = some a → (∀ θ, a.ext θ ↔ (σ.ext θ ∧ l.map (Tm.at θ) = r ∧ m.map (Tm.at θ) = s)) ∧ ∀ y, a y ≠ none ↔ (σ y ≠ none ∨ .v y ∈ l ∨ .v y ∈ m) := by
    intro l m r s hl hm a ha
    obtain ⟨b, h1, h2⟩ := Option.bind_eq_some_iff.1 ha
    obtain ⟨a1, a2⟩ := fitsL_some hl h1
    obtain ⟨b1, b2⟩ := fitsL_some hm h2
    refine ⟨fun θ => ?_, fun y => ?_⟩
    · rw [b1, a1, and_assoc]
    · rw [b2, a2, or_assoc]
  have kn : ∀ {l m : List (Tm K)} {r s : List K}, l.length = r.length → m.length = s.length → ((fitsL σ l r).bind fun a => fitsL a m s) = none → ∀ θ, ¬ (σ.ext θ ∧ l.map (Tm.at θ) = r ∧ m.map (Tm.at θ) = s) := by
    intro l m r s hl hm ha θ ⟨h1, h2, h3⟩
    cases hb : fitsL σ l r with
    | none => exact fitsL_none hb θ ⟨h1, h2⟩
    | some b =>
      rw [hb] at ha
      have ha : fitsL b m s = none := ha
      exact fitsL_none ha θ ⟨((fitsL_some hl hb).1 θ).2 ⟨h1, h2⟩, h3⟩
  have hex : ∀ a : Vb K, a.ext (fun x => (a x).getD d) := fun a x v hx => by show (a x).getD d = v; rw [hx]; rfl
  cases h1 : (fitsL σ l r).bind fun a => fitsL a m s with
  | none =>
    cases h2 : (fitsL σ m s).bind fun a => fitsL a l r with
    | none => rfl
    | some b =>
      obtain ⟨k1, k2, k3⟩ := ((key hm hl b h2).1 _).1 (hex b)
      exact absurd ⟨k1, k3, k2⟩ (kn hl hm h1 _)
  | some a =>
    obtain ⟨a1, a2⟩ := key hl hm a h1
    cases h2 : (fitsL σ m s).bind fun a => fitsL a l r with
    | none =>
      obtain ⟨k1, k2, k3⟩ := (a1 _).1 (hex a)
      exact absurd ⟨k1, k3, k2⟩ (kn hm hl h2 _)
    | some b =>
      obtain ⟨b1, b2⟩ := key hm hl b h2
      refine congrArg some (vb_eq d (fun θ => ?_) (fun y => ?_))
      · rw [a1, b1]
        exact ⟨fun ⟨x, y, z⟩ => ⟨x, z, y⟩, fun ⟨x, y, z⟩ => ⟨x, z, y⟩⟩
      · rw [a2, b2]
        exact or_congr Iff.rfl or_comm
theorem flatMap_add {α β : Type} (f g : α → List β) : ∀ l : List α, (l.flatMap fun a => f a ++ g a).Perm (l.flatMap f ++ l.flatMap g)
  | [] => .refl _
  | a :: l => by
    simp only [List.flatMap_cons]
    have h := flatMap_add f g l
    refine (h.append_left (f a ++ g a)).trans ?_
    simp only [List.append_assoc]
    refine List.Perm.append_left _ ?_
    rw [← List.append_assoc, ← List.append_assoc]
    exact (List.perm_append_comm).append_right _
theorem flatMap_swap {α β γ : Type} (f : α → β → List γ) : ∀ (l : List α) (m : List β), (l.flatMap fun a => m.flatMap fun b => f a b).Perm (m.flatMap fun b => l.flatMap fun a => f a b)
  | [], m => by
    have : (m.flatMap fun _ => ([] : List γ)) = [] := by induction m with | nil => rfl | cons _ _ ih => simp [List.flatMap_cons]
    simp only [List.flatMap_nil, this]; exact .refl _
  | a :: l, m => by
    simp only [List.flatMap_cons]
    exact ((flatMap_swap f l m).append_left _).trans (flatMap_add _ _ m).symm
theorem flatMap_perm {α β : Type} {f g : α → List β} : ∀ (l : List α), (∀ a ∈ l, (f a).Perm (g a)) → (l.flatMap f).Perm (l.flatMap g)
  | [], _ => .refl _
  | a :: l, h => by
    simp only [List.flatMap_cons]
    exact (h a List.mem_cons_self).append (flatMap_perm l fun b hb => h b (List.mem_cons_of_mem _ hb))
theorem evalL_perm {D : Nat → List (List K)} {hd : Vb K → List K} (d : K) {ls ms : List (Lt K)} (hp : ls.Perm ms) : (∀ l ∈ ls, ∀ row ∈ D l.1, l.2.length = row.length) → ∀ σ, (evalL D hd ls σ).Perm (evalL D hd ms σ) := by
  induction hp with
  | nil => exact fun _ _ => .refl _
  | cons l _ ih =>
    intro hw σ
    refine flatMap_perm _ fun row _ => ?_
    cases fitsL σ l.2 row with
    | none => exact .refl _
    | some s => exact ih (fun m hm => hw m (List.mem_cons_of_mem _ hm)) s
  | swap l m ls =>
    intro hw σ
    have e : ∀ (l m : Lt K), evalL D hd (l :: m :: ls) σ = (D l.1).flatMap fun r => (D m.1).flatMap fun s => match (fitsL σ l.2 r).bind fun a => fitsL a m.2 s with | none => [] | some a => evalL D hd ls a := by
      intro l m
      show (D l.1).flatMap _ = _
      refine congrArg (fun F => (D l.1).flatMap F) (funext fun r => ?_)
      cases fitsL σ l.2 r with
      | none =>
        show [] = (D m.1).flatMap fun _ => []
        induction D m.1 with
        | nil => rfl
        | cons _ _ ih => rw [List.flatMap_cons, ← ih]; rfl
      | some a => rfl
    rw [e, e]
    refine (flatMap_swap _ _ _).trans (flatMap_perm _ fun s hs => flatMap_perm _ fun r hr => ?_)
    rw [fits_swap d (hw m List.mem_cons_self r hr |> fun h => h) (hw l (List.mem_cons_of_mem _ List.mem_cons_self) s hs)]
  | trans h1 _ ih1 ih2 =>
    intro hw σ
    exact (ih1 hw σ).trans (ih2 (fun l hl => hw l (h1.mem_iff.2 hl)) σ)
theorem cons_erase_perm {α : Type} : ∀ (B : List α) (i : Nat) (h : i < B.length), (B[i] :: B.eraseIdx i).Perm B
  | b :: B, 0, _ => .refl _
  | b :: B, i + 1, h => by
    show (B[i]'(by simpa using h) :: b :: B.eraseIdx i).Perm (b :: B)
    exact (List.Perm.swap _ _ _).trans (List.Perm.cons b (cons_erase_perm B i (by simpa using h)))
theorem perm_of_inj {α : Type} : ∀ (A B : List α) (c : Nat → Nat), A.length = B.length → (∀ i a, A[i]? = some a → B[c i]? = some a) → (∀ i j, i < A.length → j < A.length → c i = c j → i = j) → A.Perm B
  | [], B, _, hl, _, _ => by
    have : B = [] := List.length_eq_zero_iff.1 hl.symm
    rw [this]
  | a :: A, B, c, hl, hc, hi => by
    have h0 := hc 0 a rfl
    obtain ⟨hlt, h0⟩ := List.getElem?_eq_some_iff.1 h0
    have hp : (B[c 0] :: B.eraseIdx (c 0)).Perm B := cons_erase_perm _ _ hlt
    rw [h0] at hp
    refine List.Perm.trans (List.Perm.cons a ?_) hp
    refine perm_of_inj A (B.eraseIdx (c 0)) (fun i => if c (i + 1) < c 0 then c (i + 1) else c (i + 1) - 1) ?_ (fun i x hx => ?_) (fun i j hi2 hj2 e => ?_)
    · rw [List.length_eraseIdx_of_lt hlt]
      simp only [List.length_cons] at hl
      omega
    · have hlx := (List.getElem?_eq_some_iff.1 hx).1
      have h1 := hc (i + 1) x (by simpa using hx)
      have hne : c (i + 1) ≠ c 0 := fun e => by have := hi (i + 1) 0 (by simp only [List.length_cons]; omega) (by simp) e; omega
      rw [List.getElem?_eraseIdx]
      by_cases h : c (i + 1) < c 0
      · simp only [if_pos h]; exact h1
      · simp only [if_neg h]
        rw [if_neg (by omega)]
        rw [show c (i + 1) - 1 + 1 = c (i + 1) by omega]; exact h1
    · have n1 : c (i + 1) ≠ c 0 := fun e => by have := hi (i + 1) 0 (by simp only [List.length_cons]; omega) (by simp) e; omega
      have n2 : c (j + 1) ≠ c 0 := fun e => by have := hi (j + 1) 0 (by simp only [List.length_cons]; omega) (by simp) e; omega
      have : c (i + 1) = c (j + 1) := by
        have e : (if c (i + 1) < c 0 then c (i + 1) else c (i + 1) - 1) = (if c (j + 1) < c 0 then c (j + 1) else c (j + 1) - 1) := e
        split at e <;> split at e <;> omega
      have := hi (i + 1) (j + 1) (by simp only [List.length_cons]; omega) (by simp only [List.length_cons]; omega) this
      omega
theorem emb_perm {f : Nat → Tm K} {q r : Cj K} (h : IsEmb f q r) (hl : q.lits.length = r.lits.length) : (q.lits.map (Lt.app f)).Perm r.lits := by
  obtain ⟨c, h1, h2⟩ := h.lits
  refine perm_of_inj _ _ c (by rw [List.length_map]; exact hl) (fun i a ha => ?_) (fun i j hi hj => h2 i j (by rwa [List.length_map] at hi) (by rwa [List.length_map] at hj))
  rw [List.getElem?_map] at ha
  cases hq : q.lits[i]? with
  | none => rw [hq] at ha; cases ha
  | some l =>
    rw [hq] at ha
    injection ha with ha
    rw [← ha]
    exact h1 i l hq
theorem rows_perm {D : Nat → List (List K)} {d : K} {f : Nat → Tm K} {q r : Cj K} (h : IsEmb f q r) (hl : q.lits.length = r.lits.length) (hc : Cov q) (hw : ∀ l ∈ q.lits, ∀ row ∈ D l.1, l.2.length = row.length) : (q.rows D d).Perm (r.rows D d) := by
  have hg : ∃ g : Nat → Nat, ∀ x, Occ q x → f x = .v (g x) := by
    refine ⟨fun x => match f x with | .v y => y | .c _ => 0, fun x hx => ?_⟩
    obtain ⟨y, hy⟩ := h.vars x hx
    simp only [hy]
  obtain ⟨g, hg⟩ := hg
  have e := evalL_map (S := Occ q) (D := D) (d := d) (hd := q.head) hg (fun x y hx hy e => h.inj x y hx hy (by rw [hg x hx, hg y hy, e])) (fun x hx => hc.1 x hx) (ls := q.lits) (σ := fun _ => none) (σ' := fun _ => none) (fun _ _ => rfl) (fun l hl x hx => ⟨l, hl, hx⟩)
  unfold Cj.rows
  rw [← e, h.head]
  refine evalL_perm d (emb_perm h hl) (fun l hl2 row hrow => ?_) _
  obtain ⟨m, hm, rfl⟩ := List.mem_map.1 hl2
  show (m.2.map (Tm.app f)).length = row.length
  rw [List.length_map]
  exact hw m hm row hrow
theorem evalL_len {D : Nat → List (List K)} {hd : Vb K → List K} {n : Nat} (hn : ∀ t, (D t).length ≤ n) : ∀ (ls : List (Lt K)) (σ : Vb K), (evalL D hd ls σ).length ≤ n ^ ls.length
  | [], σ => by show 1 ≤ n ^ 0; simp
  | l :: ls, σ => by
    show ((D l.1).flatMap _).length ≤ n ^ (ls.length + 1)
    have key : ∀ (rows : List (List K)) (F : List K → List (List K)), (∀ r, (F r).length ≤ n ^ ls.length) → (rows.flatMap F).length ≤ rows.length * n ^ ls.length := by
      intro rows F hF
      induction rows with
      | nil => simp
      | cons r rows ih =>
        rw [List.flatMap_cons, List.length_append, List.length_cons, Nat.succ_mul]
        have := hF r
        omega
    have h1 := key (D l.1) (fun row => match fitsL σ l.2 row with | none => [] | some s => evalL D hd ls s) (fun r => by
      show (match fitsL σ l.2 r with | none => [] | some s => evalL D hd ls s).length ≤ _
      cases fitsL σ l.2 r with
      | none => exact Nat.zero_le _
      | some s => exact evalL_len hn ls s)
    refine Nat.le_trans h1 ?_
    rw [Nat.pow_succ, Nat.mul_comm]
    exact Nat.mul_le_mul_left _ (hn _)
end
end Go.Proofs.YtiijaaohphokcaaGreatDoor

/- Conjunctive queries, plainly: a renamed query. -/
namespace Go.Proofs.YtiijaaohphokcaaGreatDoor
section
variable {K : Type}
def nmf (names : List Nat) (x : Nat) : Nat := names.getD x 0
def Cj.ren (q : Cj K) (names ord : List Nat) : Cj K := ⟨ord.map fun i => Lt.app (fun x => .v (nmf names x)) (q.lits.getD i (0, [])), q.head.map (Tm.app fun x => .v (nmf names x))⟩
theorem perm_facts {l : List Nat} {n : Nat} (h : l.Perm (List.range n)) : l.length = n ∧ l.Nodup ∧ ∀ x, x ∈ l ↔ x < n :=
  ⟨by rw [h.length_eq, List.length_range], h.nodup_iff.2 List.nodup_range, fun x => by rw [h.mem_iff, List.mem_range]⟩
theorem nmf_lt {l : List Nat} {n x : Nat} (h : l.Perm (List.range n)) (hx : x < n) : nmf l x < n ∧ l.idxOf (nmf l x) = x := by
  obtain ⟨h1, h2, h3⟩ := perm_facts h
  have hl : x < l.length := by omega
  have e : nmf l x = l[x] := by unfold nmf; rw [List.getD_eq_getElem?_getD, List.getElem?_eq_getElem hl]; rfl
  rw [e]
  exact ⟨(h3 _).1 (List.getElem_mem hl), List.Nodup.idxOf_getElem h2 x hl⟩
theorem idx_lt {l : List Nat} {n x : Nat} (h : l.Perm (List.range n)) (hx : x < n) : l.idxOf x < n ∧ nmf l (l.idxOf x) = x := by
  obtain ⟨h1, h2, h3⟩ := perm_facts h
  have hm : x ∈ l := (h3 x).2 hx
  have hl : l.idxOf x < l.length := List.idxOf_lt_length_iff.2 hm
  refine ⟨by omega, ?_⟩
  unfold nmf
  rw [List.getD_eq_getElem?_getD, List.getElem?_eq_getElem hl]
  show l[l.idxOf x] = x
  exact List.getElem_idxOf hl
variable {q : Cj K} {names ord : List Nat} {n : Nat}
theorem ren_len (ho : ord.Perm (List.range q.lits.length)) : (q.ren names ord).lits.length = q.lits.length := by
  show (ord.map _).length = _
  rw [List.length_map]; exact (perm_facts ho).1
theorem ren_lit (ho : ord.Perm (List.range q.lits.length)) {l : Lt K} : l ∈ (q.ren names ord).lits ↔ ∃ m ∈ q.lits, l = Lt.app (fun x => .v (nmf names x)) m := by
  show l ∈ ord.map _ ↔ _
  rw [List.mem_map]
  constructor
  · rintro ⟨i, hi, rfl⟩
    have hl := ((perm_facts ho).2.2 i).1 hi
    refine ⟨q.lits[i], List.getElem_mem hl, ?_⟩
    rw [List.getD_eq_getElem?_getD, List.getElem?_eq_getElem hl]; rfl
  · rintro ⟨m, hm, rfl⟩
    obtain ⟨i, hi, rfl⟩ := List.getElem_of_mem hm
    refine ⟨i, ((perm_facts ho).2.2 i).2 hi, ?_⟩
    rw [List.getD_eq_getElem?_getD, List.getElem?_eq_getElem hi]; rfl
theorem ren_occ (ho : ord.Perm (List.range q.lits.length)) {y : Nat} : Occ (q.ren names ord) y ↔ ∃ x, Occ q x ∧ nmf names x = y := by
  constructor
  · rintro ⟨l, hl, hy⟩
    obtain ⟨m, hm, rfl⟩ := (ren_lit ho).1 hl
    obtain ⟨t, ht, e⟩ := List.mem_map.1 hy
    cases t with
    | c k => cases e
    | v x => injection e with e; exact ⟨x, ⟨m, hm, ht⟩, e⟩
  · rintro ⟨x, ⟨m, hm, hx⟩, rfl⟩
    exact ⟨_, (ren_lit ho).2 ⟨m, hm, rfl⟩, List.mem_map.2 ⟨.v x, hx, rfl⟩⟩
theorem app_back {h : Nat → Tm K} {g : Nat → Tm K} {t : Tm K} (e : ∀ x, t = .v x → Tm.app g (h x) = .v x) : Tm.app g (Tm.app h t) = t := by
  cases t with
  | c k => rfl
  | v x => exact e x rfl
theorem ren_emb (hn : names.Perm (List.range n)) (ho : ord.Perm (List.range q.lits.length)) (hv : ∀ x, Occ q x → x < n) : IsEmb (fun x => .v (nmf names x)) q (q.ren names ord) := by
  refine ⟨rfl, ⟨fun i => ord.idxOf i, fun i l hl => ?_, fun i j hi hj e => ?_⟩, fun x _ => ⟨_, rfl⟩, fun x y hx hy e => ?_⟩
  · have hi := (List.getElem?_eq_some_iff.1 hl).1
    obtain ⟨h1, h2⟩ := idx_lt ho hi
    have hlo : ord.idxOf i < ord.length := by rw [(perm_facts ho).1]; exact h1
    show (ord.map _)[ord.idxOf i]? = _
    rw [List.getElem?_map, List.getElem?_eq_getElem hlo, List.getElem_idxOf hlo]
    show some (Lt.app _ (q.lits.getD i (0, []))) = _
    rw [List.getD_eq_getElem?_getD, hl]; rfl
  · have h1 := (idx_lt ho hi).2
    have h2 := (idx_lt ho hj).2
    have e : ord.idxOf i = ord.idxOf j := e
    rw [e, h2] at h1
    exact h1.symm
  · injection e with e
    have h1 := (nmf_lt hn (hv x hx)).2
    rw [e, (nmf_lt hn (hv y hy)).2] at h1
    exact h1.symm
theorem ren_back (hn : names.Perm (List.range n)) (ho : ord.Perm (List.range q.lits.length)) (hv : ∀ x, Occ q x → x < n) (hh : ∀ x, Tm.v x ∈ q.head → x < n) : IsEmb (fun y => .v (names.idxOf y)) (q.ren names ord) q := by
  have back : ∀ l : List (Tm K), (∀ x, Tm.v x ∈ l → x < n) → (l.map (Tm.app fun x => .v (nmf names x))).map (Tm.app fun y => .v (names.idxOf y)) = l := fun l hl => by
    rw [List.map_map]
    refine (List.map_congr_left fun t ht => ?_).trans (List.map_id l)
    exact app_back (fun x e => by show Tm.v _ = Tm.v x; rw [(nmf_lt hn (hl x (e ▸ ht))).2])
  have lb : ∀ l ∈ q.lits, Lt.app (fun y => .v (names.idxOf y)) (Lt.app (fun x => .v (nmf names x)) l) = l := fun l hl => by
    unfold Lt.app
    rw [back l.2 (fun x hx => hv x ⟨l, hl, hx⟩)]
  refine ⟨back q.head hh, ⟨fun j => nmf ord j, fun j l hl => ?_, fun i j hi hj e => ?_⟩, fun x _ => ⟨_, rfl⟩, fun x y hx hy e => ?_⟩
  · have hl : (ord.map _)[j]? = some l := hl
    rw [List.getElem?_map] at hl
    cases ho2 : ord[j]? with
    | none => rw [ho2] at hl; cases hl
    | some i =>
      rw [ho2] at hl
      have hl : some (Lt.app (fun x => .v (nmf names x)) (q.lits.getD i (0, []))) = some l := hl
      injection hl with hl
      have e : nmf ord j = i := by unfold nmf; rw [List.getD_eq_getElem?_getD, ho2]; rfl
      have hi : i < q.lits.length := ((perm_facts ho).2.2 i).1 (List.mem_of_getElem? ho2)
      show q.lits[nmf ord j]? = _
      rw [e, ← hl, List.getD_eq_getElem?_getD, List.getElem?_eq_getElem hi]
      show some q.lits[i] = some (Lt.app _ (Lt.app _ q.lits[i]))
      rw [lb _ (List.getElem_mem hi)]
  · rw [ren_len ho] at hi hj
    have h1 := (nmf_lt ho hi).2
    have e : nmf ord i = nmf ord j := e
    rw [e, (nmf_lt ho hj).2] at h1
    exact h1.symm
  · injection e with e
    obtain ⟨a, ha, rfl⟩ := (ren_occ ho).1 hx
    obtain ⟨b, hb, rfl⟩ := (ren_occ ho).1 hy
    rw [(nmf_lt hn (hv a ha)).2, (nmf_lt hn (hv b hb)).2] at e
    rw [e]
theorem IsEmb.hom {f : Nat → Tm K} {a b : Cj K} (h : IsEmb f a b) : Hom a b := ⟨f, h.head, fun l hl => by
  obtain ⟨i, hi, rfl⟩ := List.getElem_of_mem hl
  obtain ⟨c, h1, _⟩ := h.lits
  exact List.mem_of_getElem? (h1 i _ (List.getElem?_eq_getElem hi))⟩
end
theorem Right.ren {T : List (List Int)} {vars : Nat} {q : Cj V} {τ : Nat → Int} (h : Right T vars q τ) {names ord : List Nat} (hn : names.Perm (List.range vars)) (ho : ord.Perm (List.range q.lits.length)) : Right T vars (q.ren names ord) (fun y => τ (names.idxOf y)) := by
  refine ⟨by rw [ren_len ho]; exact h.n1, by rw [ren_len ho]; exact h.n8, h.v16, ?_, ?_, fun l hl => ?_, fun y hy => ?_, fun t ht => ?_⟩
  · show 0 < (q.head.map _).length
    rw [List.length_map]; exact h.h1
  · show (q.head.map _).length ≤ 24
    rw [List.length_map]; exact h.h24
  · obtain ⟨m, hm, rfl⟩ := (ren_lit ho).1 hl
    obtain ⟨ty, t1, t2, t3⟩ := h.lit m hm
    refine ⟨ty, t1, by show (m.2.map _).length = _; rw [List.length_map]; exact t2, fun i t c hi hc => ?_⟩
    have hi : (m.2.map (Tm.app fun x => Tm.v (nmf names x)))[i]? = some t := hi
    rw [List.getElem?_map] at hi
    cases hmi : m.2[i]? with
    | none => rw [hmi] at hi; cases hi
    | some u =>
      rw [hmi] at hi
      injection hi with hi
      subst hi
      exact (t3 i u c hmi hc).map (fun x e => by
        have hx := h.lt ⟨m, hm, e ▸ List.mem_of_getElem? hmi⟩
        obtain ⟨k1, k2⟩ := nmf_lt hn hx
        exact ⟨k1, by rw [k2]⟩)
  · obtain ⟨k1, k2⟩ := idx_lt hn hy
    exact (ren_occ ho).2 ⟨_, h.occ _ k1, k2⟩
  · obtain ⟨u, hu, rfl⟩ := List.mem_map.1 ht
    have hh := h.hd u hu
    cases u with
    | v x => exact (nmf_lt hn hh).1
    | c k => exact hh
end Go.Proofs.YtiijaaohphokcaaGreatDoor

/- querylabfield.Tape.Order: the numbers below n in an order. -/
namespace Go
open Go.RowKit
theorem run_append_zero {P : Program} {w : World} (base : Nat) (t ty e : TypeId) (i : TypeInfo) (size : Nat) (ht : P.underlying t = some (.slice e)) (hi : P.info? e = some i)
    (v : Value) (n : Nat) (xs : List Value) (hown : w.ownsRow base e size v n xs) (ao : Option Addr) (c : Nat) : (Builtin.append_ #[t, t] ty #[v, .slice ao 0 c]).run P w = .ok v w := by
  rcases hown.2 with ⟨rfl, rfl⟩ | ⟨g, cap, cur, rfl, _, _, hnc, _⟩
  · cases ao <;> simp [Builtin.append_, run_underlying ht, sizeOf, typeInfo, hi, Builtin.lenOf, Builtin.firstCells, loadCells, loadCellsFrom]
  · cases ao <;> simp [Builtin.append_, run_underlying ht, sizeOf, typeInfo, hi, Builtin.lenOf, Builtin.firstCells, loadCells, loadCellsFrom, hnc, storeCells]
theorem wpList_append_zero {P : Program} {w : World} {ops : Array Oper} {rest : List Oper} {o : Oper} {a : Act} {Q : Exit → Act → World → Prop} (hgd : o.guard = none) (s x : Operand) (t : TypeId)
    (ho : o.op = .call { callee := .builtin .append, args := #[s, x], argTypes := #[t, t] })
    (base : Nat) (e : TypeId) (i : TypeInfo) (size : Nat) (ht : P.underlying t = some (.slice e)) (hi : P.info? e = some i)
    (v : Value) (n : Nat) (xs : List Value) (hs : a.eval s = v) (hown : w.ownsRow base e size v n xs) (ao : Option Addr) (c : Nat) (hx : a.eval x = .slice ao 0 c)
    (h : wpList P ops Q rest (a.put o.dst v) w) : wpList P ops Q (o :: rest) a w := by
  refine wpList_plain hgd fun K hK => ?_
  have hrun := run_append_zero (P := P) (w := w) base t o.type e i size ht hi v n xs hown ao c
  unfold Oper.wp
  simp [execOp, ho, resolve, invoke, builtin, hs, hx, hrun, Result.andThen]
  exact hK _ _ h
end Go
namespace Go.Proofs.YtiijaaohphokcaaGreatDoor
open Go.RowKit
theorem icells_len (l : List Int) : (l.flatMap icells).length = l.length := by induction l with | nil => rfl | cons x l ih => simp only [List.flatMap_cons, List.length_append, ih, List.length_cons, List.length_nil]; omega
theorem icells_one (l : List Int) : ∀ u ∈ l.flatMap icells, u.oneCell' = true := by
  intro u hu
  obtain ⟨x, _, hx⟩ := List.mem_flatMap.1 hu
  simp at hx
  subst hx
  rfl
theorem icells_at (l : List Int) (j : Nat) (u : Value) (h : (l.flatMap icells)[j]? = some u) : ∃ hj : j < l.length, u = .int .i64 l[j] := by
  have h1 := (List.getElem?_eq_some_iff.1 h).1
  rw [icells_len] at h1
  have h2 := flatMap_at (cells := icells) (size := 1) (fun _ => rfl) l j 0 h1 (by decide)
  simp only [Nat.mul_one, Nat.add_zero] at h2
  rw [h] at h2
  exact ⟨h1, by injection h2⟩
theorem il_cells {w : World} {r : IL} (h : r.In w) (j : Nat) (u : Value) (hu : (r.l.flatMap icells)[j]? = some u) : w.cell? ((⟨r.h.b, r.h.o, none⟩ : Addr).add j) = some u := by
  obtain ⟨hj, rfl⟩ := icells_at _ _ _ hu
  rw [Addr.add_lit]
  exact int_at h.1 hj
theorem own_new1 {w : World} {x : Int} : (w.alloc (.cells #[.int .i64 x] 3)).ownsRow w.heap.size 3 1 (.slice (some ⟨w.heap.size, 0, none⟩) 1 1) 1 [.int .i64 x] :=
  ⟨rfl, .inr ⟨w.heap.size, 1, #[.int .i64 x], rfl, Nat.le_refl _, heap_alloc_new w _, Nat.le_refl _, by decide, rfl, rfl⟩⟩
theorem il_take {w : World} {h : Hd} {l : List Int} (hM : IL.In w ⟨h, l⟩) (k : Nat) : IL.In w ⟨h, l.take k⟩ := by
  obtain ⟨⟨h1, h2, h3, h4⟩, h5⟩ := hM
  dsimp only at h1 h2 h3 h4 h5
  refine ⟨⟨Nat.le_trans (by show (l.take k).length ≤ l.length; rw [List.length_take]; omega) h1, h2, fun hp => h3 (by have hp2 : 0 < (l.take k).length := hp; rw [List.length_take] at hp2; omega), fun i hi j v hv => ?_⟩, fun n hn => h5 n (List.mem_of_mem_take hn)⟩
  have hi1 : i < (l.take k).length := hi
  have hi2 : i < l.length := by rw [List.length_take] at hi1; omega
  dsimp only at hv
  rw [List.getElem_take] at hv
  exact h4 i hi2 j v hv
theorem il_drop {w : World} {b o cap : Nat} {l : List Int} (hM : IL.In w ⟨⟨some ⟨b, o, none⟩, cap⟩, l⟩) {k : Nat} (hk : k ≤ l.length) : IL.In w ⟨⟨some ⟨b, o + k, none⟩, cap - k⟩, l.drop k⟩ := by
  obtain ⟨⟨h1, h2, h3, h4⟩, h5⟩ := hM
  dsimp only at h1 h2 h3 h4 h5
  refine ⟨⟨by show (l.drop k).length ≤ cap - k; rw [List.length_drop]; omega, by show cap - k ≤ maxLen; omega, fun hp => ⟨rfl, (h3 (by have hp2 : 0 < (l.drop k).length := hp; rw [List.length_drop] at hp2; omega)).2⟩, fun i hi j v hv => ?_⟩, fun n hn => h5 n (List.mem_of_mem_drop hn)⟩
  have hi1 : i < (l.drop k).length := hi
  have hi2 : k + i < l.length := by rw [List.length_drop] at hi1; omega
  have hj : j < 1 := (List.getElem?_eq_some_iff.1 hv).1
  have e : j = 0 := by omega
  subst e
  dsimp only at hv
  rw [List.getElem_drop] at hv
  have h6 := h4 (k + i) hi2 0 v hv
  have h7 : w.cell? ⟨b, o + (k + i) * 1 + 0, none⟩ = some v := h6
  show w.cell? ⟨b, o + k + i * 1 + 0, none⟩ = some v
  rw [← h7]
  congr 2
  omega
theorem il_cells2 {w : World} {b o cap : Nat} {l : List Int} (h : IL.In w ⟨⟨some ⟨b, o, none⟩, cap⟩, l⟩) : ∀ j u, (l.flatMap icells)[j]? = some u → w.cell? ((⟨b, o, none⟩ : Addr).add j) = some u := il_cells h
theorem one_cell {n : Int} : ∀ u ∈ [Value.int .i64 n], u.oneCell' = true := by intro u hu; rw [List.mem_singleton.1 hu]; rfl
abbrev ofs (l : List Nat) : List Int := l.map Int.ofNat
theorem ofs64 {l : List Nat} (h : ∀ x ∈ l, x ≤ 1000) : ∀ n ∈ ofs l, int64 n := fun n hn => by
  obtain ⟨x, hx, rfl⟩ := List.mem_map.1 hn
  have := h x hx
  show int64 (Int.ofNat x)
  constructor <;> simp <;> omega
def OrdV (base : Nat) (l : List Nat) (v : Value) (w : World) : Prop := (l = [] ∧ v = .slice none 0 0) ∨ ∃ g cap, v = .slice (some ⟨g, 0, none⟩) l.length cap ∧ IL.In w ⟨⟨some ⟨g, 0, none⟩, cap⟩, ofs l⟩ ∧ base ≤ g
theorem OrdV.own {W : World} {base : Nat} {v : Value} {n b2 : Nat} {l : List Nat} (h : W.ownsRow b2 3 1 v n ((ofs l).flatMap icells)) (hl : ∀ x ∈ l, x ≤ 1000) (hb : base ≤ b2) (hne : 0 < l.length) : OrdV base l v W := by
  have hn : n = l.length := by have := h.1; rw [icells_len, List.length_map, Nat.mul_one] at this; exact this.symm
  subst hn
  rcases id h with ⟨_, h2⟩
  rcases h2 with ⟨_, h0⟩ | ⟨g, cap, cur, rfl, hg, _⟩
  · omega
  · obtain ⟨r, hv, hr, hin⟩ := il_mk h (ofs64 hl)
    refine .inr ⟨g, cap, rfl, ?_, Nat.le_trans hb hg⟩
    obtain ⟨⟨ao, c2⟩, rl⟩ := r
    dsimp only at hr hv
    subst hr
    injection hv with h1 h2 h3
    subst h1 h3
    exact hin
theorem ord_perm {l : List Nat} {i k : Nat} (h : l.Perm (List.range i)) : (l.take k ++ [i] ++ l.drop k).Perm (List.range (i + 1)) := by
  have h1 : (l.take k ++ i :: l.drop k).Perm (i :: l) := by
    have h2 := List.perm_middle (a := i) (l₁ := l.take k) (l₂ := l.drop k)
    rwa [List.take_append_drop] at h2
  rw [List.range_succ, List.append_assoc]
  refine List.Perm.trans h1 ?_
  exact (List.Perm.cons i h).trans (List.perm_append_comm (l₁ := [i]))
theorem ord_tail {w1 : World} {base m : Nat} {v1 : Value} {x : Int} {l : List Int} {h : Hd} {W : World} (hown : w1.ownsRow base 3 1 v1 (1 + m) ([.int .i64 x] ++ l.flatMap icells)) (hx : int64 x) (hl : IL.In W ⟨h, l⟩) : ∃ g1 cap1, v1 = .slice (some ⟨g1, 0, none⟩) (m + 1) cap1 ∧ Hid (IL.In w1 ⟨⟨some ⟨g1, 0, none⟩, cap1⟩, x :: l⟩) := by
  rw [Nat.add_comm] at hown
  obtain ⟨r, hv, hr, hin⟩ := il_mk (xs := x :: l) hown (by intro n hn; rcases List.mem_cons.1 hn with rfl | hn; exact hx; exact hl.2 n hn)
  obtain ⟨g', cap', rfl, _, _⟩ := World.ownsRow.form hown (by omega)
  obtain ⟨⟨ao, cap⟩, rl⟩ := r
  dsimp only at hr hv
  subst hr
  injection hv with h1 h2 h3
  subst h1 h3
  exact ⟨g', cap', rfl, hide hin⟩
def OrdPost (w : World) (b : Nat) (L : IL) (a n : Nat) (e : Ending) (w' : World) : Prop :=
  ∃ (l : List Nat) (v : Value) (a' : Nat), e = .returned v ∧ OrdV w.heap.size l v w' ∧ l.Perm (List.range n) ∧ TapeIn w' b L a' ∧ a' ≤ a + n ∧ w.grownBy w' (some b)
set_option maxRecDepth 100000 in
set_option maxHeartbeats 8000000 in
theorem order_any (w : World) (b : Nat) (L : IL) (a n : Nat) (ht : TapeIn w b L a) (ha : a ≤ 4611686018427380000) (hn : n ≤ 100) : Calls Tryz.prog 62 #[.pointer (some ⟨b, 0, none⟩), .int .i64 (n : Nat)] w (OrdPost w b L a n) := by
  obtain ⟨i0, hi, hz0, hz1, hz2⟩ := info_parts info3
  have HI := hide (And.intro hi (And.intro hz0 (And.intro hz1 hz2)))
  have HT := hide ht
  have hbw := ht.lt
  have HLW := hide ht.low
  clear hi hz0 hz1 hz2 ht
  go_enter Tryz.func62, Tryz.ntmps62
  go_wp2
  go_loopw [5, 6] (fun v i wr => ∃ (k ak : Nat) (l : List Nat) (u : Value), u = v ∧ k ≤ n ∧ i = .int .i64 k ∧ Hid (l.length = k) ∧ Hid (OrdV w.heap.size l v wr) ∧ Hid (l.Perm (List.range k)) ∧ Hid (TapeIn wr b L ak) ∧ Hid (ak ≤ a + k) ∧ Hid (w.grownBy wr (some b))) (fun _ i => fun _ => n - (intOf i).toNat)
  case atStart => exact ⟨0, a, [], _, rfl, Nat.zero_le _, rfl, hide rfl, hide (.inl ⟨rfl, rfl⟩), hide (.refl _), HT, hide (by omega), hide (World.grownBy.refl _ _)⟩
  case round =>
  obtain ⟨k, ak, l, u, rfl, hk, rfl, HLL, HV, HP, HTP, HA, HG⟩ := hrel
  by_cases hlt : k < n
  · have hkn : (k : Int) < n := by omega
    have hfm := fmod_ok (x := rawAt L ak) (n := ((k + 1 : Nat) : Int)) (by omega)
    obtain ⟨m, hm, hmn⟩ : ∃ m : Nat, m ≤ k ∧ nAt L ak ((k + 1 : Nat) : Int) = m := ⟨(nAt L ak ((k + 1 : Nat) : Int)).toNat, by unfold nAt; omega, by unfold nAt; omega⟩
    have hk1 : IntKind.i64.wrap ((k : Int) + 1) = ((k + 1 : Nat) : Int) := by rw [IntKind.wrap_i64]; omega
    have HNC := hide (n_any wr b ak L ((k + 1 : Nat) : Int) HTP.out (by have := HA.out; omega) (by constructor <;> omega))
    rw [hmn] at HNC
    have HPL := hide (pos_le L ak)
    clear hfm hmn
    have HPN := hide (ord_perm (k := m) HP.out)
    have HL64 := hide (show ∀ x ∈ l, x ≤ 1000 from fun x hx => by have := ((perm_facts HP.out).2.2 x).1 hx; omega)
    rcases HV.out with ⟨hl0, hu⟩ | ⟨g, cap, hu, hgin, hgb⟩
    · subst hl0 hu
      have hk0 : k = 0 := by have := HLL.out; simpa using this.symm
      subst hk0
      have hm0 : m = 0 := by omega
      subst hm0
      go_upto_region 6 with (go_at_call 10; refine HNC.out.mono ?_; rintro e y ⟨rfl, h1, h2⟩; have HTY := hide h1; have HGY := hide (HG.out.trans h2); clear h1 h2 HNC)
      clear hk1
      have hby := HTY.out.lt
      have HWY := hide HGY.out.size
      go_wp2_with (at_builtin; first
        | refine wpList_append_zero rfl _ _ 22 rfl y.heap.size 3 i0 1 Tryz.underlying22 HI.out.1 _ _ _ rfl own_new1 none 0 rfl ?_
        | (refine wpList_append_own _ rfl _ _ 22 rfl w.heap.size 3 i0 (.int .i64 0) 1 8 Tryz.underlying22 HI.out.1 HI.out.2.1 HI.out.2.2.1 HI.out.2.2.2 rfl (by decide) _ _ _ rfl (World.ownsRow_nil _ _ _ _) ⟨y.heap.size, 0, none⟩ 1 1 [.int .i64 0] rfl rfl (new_cells (l := [_])) one_cell (by decide) (by decide) (by have := HWY.out; simp; omega) ?_; intro v' w1 hown' hgrow _; have HO := hide hown'; have HGR := hide hgrow; clear hown' hgrow))
      have HF := hide (show OrdV w.heap.size [0] v' w1 from OrdV.own (l := [0]) HO.out (fun x hx => by rw [List.mem_singleton.1 hx]; decide) (Nat.le_refl _) (by decide))
      have HG2 := hide ((HGY.out.trans (only_below (belA (.cells #[.int .i64 0] 3)) (some b))).andThen HGR.out (fun j e => by cases e))
      have HT2 := hide (tape_far (HTY.out.mono (belA (.cells #[.int .i64 0] 3))) HGR.out (fun j e => by cases e))
      go_roundw
      case rel => exact ⟨1, _, [0], _, rfl, by omega, by go_num, hide rfl, HF, HPN, HT2, hide (by have := HPL.out; have := HA.out; omega), HG2⟩
      case measure => simp [intOf]; omega
    · have hll := HLL.out
      have HXL := hide (show (ofs l).length = k from by rw [List.length_map]; exact hll)
      obtain ⟨xs, hxs⟩ : ∃ xs, ofs l = xs := ⟨_, rfl⟩
      have HX := hide hxs
      rw [hll] at hu
      subst hu
      rw [hxs] at hgin HXL
      have HGI := hide hgin
      have HGB := hide hgb
      have hcap : k ≤ cap := by have h := hgin.1.1; rw [HXL.out] at h; exact h
      have hcapi : (k : Int) ≤ cap := by omega
      have hmi : (m : Int) ≤ k := by omega
      have hmc : (m : Int) ≤ cap := by omega
      have H64 := hide (show int64 (k : Int) from by constructor <;> omega)
      clear hll hxs hgin hgb
      go_upto_region 6 with (go_at_call 10; refine HNC.out.mono ?_; rintro e y ⟨rfl, h1, h2⟩; have HTY := hide h1; have HGY := hide (HG.out.trans h2); have HGIY := hide (il_grown HGI.out h2 (fun _ e => by have := HGB.out; have e : g = b := e; omega)); clear h1 h2 HNC)
      clear hk1
      have HWY := hide HGY.out.size
      have HGIW := hide HGIY.out.1.2.2.1
      have HIZ := hide (show ∀ z : World, Below y.heap.size y z → IL.In z ⟨⟨some ⟨g, 0, none⟩, cap⟩, xs⟩ from fun z hz => HGIY.out.mono hz)
      have HDZ := hide (show ∀ z : World, Below y.heap.size y z → IL.In z ⟨⟨some ⟨g, m, none⟩, cap - m⟩, xs.drop m⟩ from fun z hz => by have h := il_drop (HIZ.out z hz) (k := m) (by rw [HXL.out]; exact hm); simpa only [Nat.zero_add] using h)
      by_cases hmk : m < k
      · have hkm : k - m + 1 ≤ 1001 := by omega
        go_wp2_with (at_builtin; first
          | (refine wpList_append_grows _ rfl _ _ 22 rfl 3 i0 (.int .i64 0) 1 8 Tryz.underlying22 HI.out.1 HI.out.2.1 HI.out.2.2.1 HI.out.2.2.2 rfl (by decide) (some ⟨y.heap.size, 0, none⟩) 1 1 [.int .i64 (k : Nat)] rfl (by simp) rfl ?a1 ⟨g, m, none⟩ (k - m) (cap - m) ((xs.drop m).flatMap icells) rfl ?a2 ?a3 (icells_one _) ?a4 ?a5 ?a6 ?_
             case a1 => (rintro _ ⟨rfl⟩; exact new_cells (l := [_]))
             case a2 => rw [icells_len, List.length_drop, HXL.out]; omega
             case a3 => exact il_cells2 (HDZ.out _ (belA _))
             case a4 => omega
             case a5 => unfold maxLen; omega
             case a6 => omega
             intro v1 w1 hown1 hgr1
             have HG1 := hide (show Below y.heap.size y w1 from (belA _).trans ((grown_below hgr1).mono (by simp)))
             obtain ⟨g1, cap1, hv1, HO1⟩ : ∃ g1 cap1, v1 = .slice (some ⟨g1, 0, none⟩) (k - m + 1) cap1 ∧ Hid (IL.In w1 ⟨⟨some ⟨g1, 0, none⟩, cap1⟩, (k : Int) :: xs.drop m⟩) := ord_tail hown1 H64.out (HDZ.out y (Below.refl _ _))
             subst hv1
             clear hown1 hgr1)
          | (refine wpList_append_grows _ rfl _ _ 22 rfl 3 i0 (.int .i64 0) 1 8 Tryz.underlying22 HI.out.1 HI.out.2.1 HI.out.2.2.1 HI.out.2.2.2 rfl (by decide) (some ⟨g, 0, none⟩) m m ((xs.take m).flatMap icells) rfl (by simp) ?b0 ?b1 ⟨g1, 0, none⟩ (k - m + 1) cap1 (((k : Int) :: xs.drop m).flatMap icells) rfl ?b2 ?b3 (icells_one _) ?b4 ?b5 ?b6 ?_
             case b0 => rw [icells_len, List.length_take, HXL.out]; omega
             case b1 => (rintro _ ⟨rfl⟩; exact il_cells2 (il_take (HIZ.out _ HG1.out) m))
             case b2 => rw [icells_len, List.length_cons, List.length_drop, HXL.out]; omega
             case b3 => exact il_cells2 HO1.out
             case b4 => omega
             case b5 => unfold maxLen; omega
             case b6 => omega
             intro v2 w2 hown2 hgr2
             have HG2 := hide (HG1.out.trans ((grown_below hgr2).mono HG1.out.size))
             have HO2 := hide hown2
             clear hown2 hgr2))
        have HF := hide (show OrdV w.heap.size (l.take m ++ [k] ++ l.drop m) v2 w2 from by
          refine OrdV.own (b2 := w1.heap.size) (n := m + (k - m + 1)) ?_ (fun x hx => by have := ((perm_facts HPN.out).2.2 x).1 hx; omega) (by have := HG1.out.size; have := HWY.out; omega) (by rw [List.length_append, List.length_append]; simp only [List.length_cons, List.length_nil]; omega)
          have h := HO2.out
          rw [← List.flatMap_append] at h
          have e : ofs (l.take m ++ [k] ++ l.drop m) = xs.take m ++ (k : Int) :: xs.drop m := by
            unfold ofs
            rw [← HX.out, List.map_append, List.map_append, List.map_take, List.map_drop, List.append_assoc]; rfl
          rw [e]; exact h)
        have HGF := hide (HGY.out.trans (only_below HG2.out (some b)))
        have HTF := hide (HTY.out.mono HG2.out)
        go_roundw
        case rel => exact ⟨k + 1, _, l.take m ++ [k] ++ l.drop m, _, rfl, by omega, by go_num, hide (perm_facts HPN.out).1, HF, HPN, HTF, hide (by have := HPL.out; have := HA.out; omega), HGF⟩
        case measure => simp [intOf]; omega
      · have hme : k = m := by omega
        subst hme
        go_wp2_with (at_builtin; first
          | (refine wpList_append_zero rfl _ _ 22 rfl y.heap.size 3 i0 1 Tryz.underlying22 HI.out.1 _ _ _ rfl own_new1 (some ⟨g, k, none⟩) (cap - k) (by first | rfl | (simp; done)) ?_)
          | (refine wpList_append_grows _ rfl _ _ 22 rfl 3 i0 (.int .i64 0) 1 8 Tryz.underlying22 HI.out.1 HI.out.2.1 HI.out.2.2.1 HI.out.2.2.2 rfl (by decide) (some ⟨g, 0, none⟩) k k (xs.flatMap icells) rfl (by simp) ?b0 ?b1 ⟨y.heap.size, 0, none⟩ 1 1 [.int .i64 (k : Nat)] rfl rfl ?b3 one_cell ?b4 ?b5 ?b6 ?_
             case b0 => rw [icells_len, HXL.out]; omega
             case b1 => (rintro _ ⟨rfl⟩; exact il_cells2 (HIZ.out _ (belA _)))
             case b3 => exact new_cells (l := [_])
             case b4 => omega
             case b5 => unfold maxLen; omega
             case b6 => omega
             intro v2 w2 hown2 hgr2
             have HG2 := hide (show Below y.heap.size y w2 from (belA _).trans ((grown_below hgr2).mono (by simp)))
             have HO2 := hide hown2
             clear hown2 hgr2))
        all_goals
          have HF := hide (show OrdV w.heap.size (l.take k ++ [k] ++ l.drop k) v2 w2 from by
            refine OrdV.own (n := k + 1) (b2 := (y.alloc (.cells #[.int .i64 (k : Nat)] 3)).heap.size) ?_ (fun x hx => by have := ((perm_facts HPN.out).2.2 x).1 hx; omega) (by have := HWY.out; rw [World.size_alloc]; omega) (by rw [List.length_append, List.length_append]; simp only [List.length_cons, List.length_nil]; omega)
            have h := HO2.out
            have e : ofs (l.take k ++ [k] ++ l.drop k) = xs ++ [(k : Int)] := by
              unfold ofs
              have h1 : xs.take k = xs := List.take_of_length_le (by rw [HXL.out]; exact Nat.le_refl _)
              have h2 : xs.drop k = [] := List.drop_of_length_le (by rw [HXL.out]; exact Nat.le_refl _)
              rw [List.map_append, List.map_append, List.map_take, List.map_drop]
              show (ofs l).take k ++ [(k : Int)] ++ (ofs l).drop k = _
              rw [HX.out, h1, h2, List.append_nil]
            rw [e, rows_snoc]; exact h)
          have HGF := hide (HGY.out.trans (only_below HG2.out (some b)))
          have HTF := hide (HTY.out.mono HG2.out)
          go_roundw
          case rel => exact ⟨k + 1, _, l.take k ++ [k] ++ l.drop k, _, rfl, by omega, by go_num, hide (perm_facts HPN.out).1, HF, HPN, HTF, hide (by have := HPL.out; have := HA.out; omega), HGF⟩
          case measure => simp [intOf]; omega
  · have hke : k = n := by omega
    have HKE := hide hke
    clear hke
    have HF := hide (show OrdPost w b L a n (.returned u) wr from ⟨l, u, ak, rfl, HV.out, by rw [← HKE.out]; exact HP.out, HTP.out, by have := HA.out; omega, HG.out⟩)
    go_wp2
    go_ret
    exact HF.out
end Go.Proofs.YtiijaaohphokcaaGreatDoor

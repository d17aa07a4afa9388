/- Conjunctive queries, plainly: maps between them; cores. -/
import Derived.Test.YtiijaaohphokcaaGreatDoorG01
namespace Go.Proofs.YtiijaaohphokcaaGreatDoor

/-- A variable or a constant. -/
inductive Tm (K : Type) where
  | v (n : Nat)
  | c (k : K)
section
variable {K : Type}
def Tm.app (h : Nat → Tm K) : Tm K → Tm K
  | .v n => h n
  | .c k => .c k
theorem Tm.app_app (g f : Nat → Tm K) (t : Tm K) : Tm.app g (Tm.app f t) = Tm.app (fun x => Tm.app g (f x)) t := by cases t <;> rfl
theorem Tm.app_v (t : Tm K) : Tm.app Tm.v t = t := by cases t <;> rfl
/-- A literal: its table and its slots. -/
abbrev Lt (K : Type) := Nat × List (Tm K)
def Lt.app (h : Nat → Tm K) (l : Lt K) : Lt K := (l.1, l.2.map (Tm.app h))
theorem Lt.app_app (g f : Nat → Tm K) (l : Lt K) : Lt.app g (Lt.app f l) = Lt.app (fun x => Tm.app g (f x)) l := by
  unfold Lt.app
  rw [List.map_map]
  exact congrArg _ (List.map_congr_left (fun t _ => Tm.app_app g f t))
theorem Lt.app_v (l : Lt K) : Lt.app Tm.v l = l := by
  unfold Lt.app
  have : l.2.map (Tm.app Tm.v) = l.2 := by rw [List.map_congr_left (fun t _ => Tm.app_v t)]; simp
  rw [this]
structure Cj (K : Type) where
  lits : List (Lt K)
  head : List (Tm K)
def IsHom (h : Nat → Tm K) (q r : Cj K) : Prop := q.head.map (Tm.app h) = r.head ∧ ∀ l ∈ q.lits, Lt.app h l ∈ r.lits
def Hom (q r : Cj K) : Prop := ∃ h, IsHom h q r
theorem IsHom.comp {g f : Nat → Tm K} {q r s : Cj K} (hf : IsHom f q r) (hg : IsHom g r s) : IsHom (fun x => Tm.app g (f x)) q s := by
  refine ⟨?_, fun l hl => ?_⟩
  · rw [← hg.1, ← hf.1, List.map_map]
    exact List.map_congr_left (fun t _ => (Tm.app_app g f t).symm)
  · rw [← Lt.app_app]; exact hg.2 _ (hf.2 l hl)
theorem Hom.trans {q r s : Cj K} (h : Hom q r) (k : Hom r s) : Hom q s := by
  obtain ⟨f, hf⟩ := h
  obtain ⟨g, hg⟩ := k
  exact ⟨_, hf.comp hg⟩
theorem Hom.sub {q r : Cj K} (hh : q.head = r.head) (hl : ∀ l ∈ q.lits, l ∈ r.lits) : Hom q r :=
  ⟨Tm.v, by rw [List.map_congr_left (fun t _ => Tm.app_v t)]; simpa using hh, fun l h => by rw [Lt.app_v]; exact hl l h⟩
theorem Hom.refl (q : Cj K) : Hom q q := Hom.sub rfl (fun _ h => h)
/-- The variable x stands in a literal. -/
def Occ (q : Cj K) (x : Nat) : Prop := ∃ l ∈ q.lits, Tm.v x ∈ l.2
def Cov (q : Cj K) : Prop := (∀ x, Tm.v x ∈ q.head → Occ q x) ∧ 0 < q.lits.length
def Cj.del (q : Cj K) (i : Nat) : Cj K := ⟨q.lits.eraseIdx i, q.head⟩
def Rem (q : Cj K) (i : Nat) : Prop := Cov (q.del i) ∧ Hom q (q.del i)
theorem del_sub {q : Cj K} {i : Nat} : ∀ l ∈ (q.del i).lits, l ∈ q.lits := fun l h => List.mem_of_mem_eraseIdx h
theorem Cov.sub {q r : Cj K} (h : Cov q) (hh : q.head = r.head) (hl : ∀ l ∈ q.lits, l ∈ r.lits) : Cov r := by
  refine ⟨fun x hx => ?_, ?_⟩
  · obtain ⟨l, h1, h2⟩ := h.1 x (hh ▸ hx)
    exact ⟨l, hl l h1, h2⟩
  · cases hq : q.lits with
    | nil => have := h.2; rw [hq] at this; cases this
    | cons a l => exact List.length_pos_of_mem (hl a (by rw [hq]; simp))
theorem mem_eraseIdx_ne {α : Type} {l : List α} {i j : Nat} {x : α} (h : l[i]? = some x) (hne : i ≠ j) : x ∈ l.eraseIdx j := by
  rw [List.mem_eraseIdx_iff_getElem?]
  exact ⟨i, hne, h⟩
open Classical in
/-- Core's loop: with the fuel n it looks at the literals from i on. -/
noncomputable def coreL : Nat → Cj K → Nat → Cj K
  | 0, q, _ => q
  | n + 1, q, i => if i < q.lits.length then (if Rem q i then coreL n (q.del i) i else coreL n q (i + 1)) else q
theorem del_len {q : Cj K} {i : Nat} (h : i < q.lits.length) : (q.del i).lits.length = q.lits.length - 1 := List.length_eraseIdx_of_lt h
/-- What a core is of a query. -/
structure CoreOf (q r : Cj K) : Prop where
  head : r.head = q.head
  sub : ∀ l ∈ r.lits, l ∈ q.lits
  hom : Hom q r
  le : r.lits.length ≤ q.lits.length
  cov : Cov r
theorem CoreOf.back {q r : Cj K} (h : CoreOf q r) : Hom r q := Hom.sub h.head h.sub
theorem del_del {q : Cj K} {i j : Nat} (hji : j < i) : ∀ l ∈ ((q.del i).del j).lits, l ∈ (q.del j).lits := by
  intro l hl
  unfold Cj.del at hl ⊢
  dsimp only at hl ⊢
  rw [List.mem_eraseIdx_iff_getElem?] at hl ⊢
  obtain ⟨k, hk, he⟩ := hl
  rw [List.getElem?_eraseIdx] at he
  split at he
  · exact ⟨k, hk, he⟩
  · exact ⟨k + 1, by omega, he⟩
theorem rem_mono {q : Cj K} {i j : Nat} (hji : j < i) (hi : Rem q i) (hj : Rem (q.del i) j) : Rem q j :=
  ⟨hj.1.sub rfl (del_del hji), (hi.2.trans hj.2).trans (Hom.sub rfl (del_del hji))⟩
theorem coreL_ok : ∀ (n : Nat) (q : Cj K) (i : Nat), q.lits.length ≤ i + n → Cov q → (∀ j, j < i → ¬ Rem q j) → CoreOf q (coreL n q i) ∧ ∀ j, j < (coreL n q i).lits.length → ¬ Rem (coreL n q i) j
  | 0, q, i, hn, hc, hj => ⟨⟨rfl, fun _ h => h, Hom.refl q, Nat.le_refl _, hc⟩, fun j h => hj j (by have : j < q.lits.length := h; omega)⟩
  | n + 1, q, i, hn, hc, hj => by
    unfold coreL
    by_cases hi : i < q.lits.length
    · rw [if_pos hi]
      by_cases hr : Rem q i
      · rw [if_pos hr]
        obtain ⟨h1, h2⟩ := coreL_ok n (q.del i) i (by rw [del_len hi]; omega) hr.1 (fun j h hk => hj j h (rem_mono h hr hk))
        exact ⟨⟨h1.head, fun l h => del_sub l (h1.sub l h), hr.2.trans h1.hom, by have := h1.le; rw [del_len hi] at this; omega, h1.cov⟩, h2⟩
      · rw [if_neg hr]
        refine coreL_ok n q (i + 1) (by omega) hc (fun j h => ?_)
        by_cases e : j = i
        · rw [e]; exact hr
        · exact hj j (by omega)
    · rw [if_neg hi]
      exact ⟨⟨rfl, fun _ h => h, Hom.refl q, Nat.le_refl _, hc⟩, fun j h => hj j (by omega)⟩
end
theorem php : ∀ (n : Nat) (f : Nat → Nat), (∀ k, k ≤ n → f k < n) → ∃ a b, a < b ∧ b ≤ n ∧ f a = f b
  | 0, f, h => absurd (h 0 (Nat.le_refl _)) (by omega)
  | n + 1, f, h => by
    by_cases hx : ∃ a, a ≤ n ∧ f a = f (n + 1)
    · obtain ⟨a, h1, h2⟩ := hx
      exact ⟨a, n + 1, by omega, Nat.le_refl _, h2⟩
    · have hne : ∀ a, a ≤ n → f a ≠ f (n + 1) := fun a h1 h2 => hx ⟨a, h1, h2⟩
      have hv := h (n + 1) (Nat.le_refl _)
      obtain ⟨a, b, h1, h2, h3⟩ := php n (fun k => if f (n + 1) < f k then f k - 1 else f k) (fun k hk => by
        have h4 := h k (by omega)
        have h5 := hne k hk
        show (if f (n + 1) < f k then f k - 1 else f k) < n
        split <;> omega)
      refine ⟨a, b, h1, by omega, ?_⟩
      have h3 : (if f (n + 1) < f a then f a - 1 else f a) = (if f (n + 1) < f b then f b - 1 else f b) := h3
      have h4 := hne a (by omega)
      have h5 := hne b (by omega)
      split at h3 <;> split at h3 <;> omega
def iter (f : Nat → Nat) : Nat → Nat → Nat
  | 0, x => x
  | n + 1, x => f (iter f n x)
theorem iter_add (f : Nat → Nat) (m n x : Nat) : iter f (m + n) x = iter f m (iter f n x) := by
  induction m with
  | zero => rw [Nat.zero_add]; rfl
  | succ m ih => rw [Nat.succ_add]; show f _ = f _; rw [ih]
theorem iter_lt {n : Nat} {f : Nat → Nat} (hf : ∀ i, i < n → f i < n) {i : Nat} (hi : i < n) : ∀ m, iter f m i < n
  | 0 => hi
  | m + 1 => hf _ (iter_lt hf hi m)
theorem iter_inj {n : Nat} {f : Nat → Nat} (hf : ∀ i, i < n → f i < n) (hinj : ∀ i j, i < n → j < n → f i = f j → i = j) {x y : Nat} (hx : x < n) (hy : y < n) : ∀ m, iter f m x = iter f m y → x = y
  | 0, h => h
  | m + 1, h => iter_inj hf hinj hx hy m (hinj _ _ (iter_lt hf hx m) (iter_lt hf hy m) h)
/-- An injection of finitely many into themselves comes back. -/
theorem iter_back {n : Nat} {f : Nat → Nat} (hf : ∀ i, i < n → f i < n) (hinj : ∀ i j, i < n → j < n → f i = f j → i = j) {i : Nat} (hi : i < n) : ∃ m, 0 < m ∧ iter f m i = i := by
  obtain ⟨a, b, h1, _, h3⟩ := php n (fun k => iter f k i) (fun k _ => iter_lt hf hi k)
  have h3 : iter f a i = iter f b i := h3
  refine ⟨b - a, by omega, ?_⟩
  have h4 : b = a + (b - a) := by omega
  rw [h4, iter_add] at h3
  exact (iter_inj hf hinj hi (iter_lt hf hi _) a h3).symm
theorem iter_mul {f : Nat → Nat} {m i : Nat} (h : iter f m i = i) : ∀ k, iter f (m * k) i = i
  | 0 => rfl
  | k + 1 => by rw [Nat.mul_succ, iter_add, h, iter_mul h k]
theorem inj_of_surj {n : Nat} {f : Nat → Nat} (hs : ∀ j, j < n → ∃ i, i < n ∧ f i = j) {a b : Nat} (ha : a < n) (hb : b < n) (h : f a = f b) : a = b := by
  have hch : ∃ s : Nat → Nat, ∀ j, j < n → s j < n ∧ f (s j) = j :=
    ⟨fun j => if h : j < n then Classical.choose (hs j h) else 0, fun j hj => by show (if h : j < n then Classical.choose (hs j h) else 0) < n ∧ f (if h : j < n then Classical.choose (hs j h) else 0) = j; rw [dif_pos hj]; exact Classical.choose_spec (hs j hj)⟩
  obtain ⟨s, hs2⟩ := hch
  have hl : ∀ i, i < n → s i < n := fun i hi => (hs2 i hi).1
  have hinj : ∀ i j, i < n → j < n → s i = s j → i = j := fun i j hi hj e => by rw [← (hs2 i hi).2, ← (hs2 j hj).2, e]
  have himg : ∀ i, i < n → ∃ j, j < n ∧ s j = i := by
    intro i hi
    obtain ⟨m, hm, he⟩ := iter_back hl hinj hi
    obtain ⟨m', rfl⟩ : ∃ m', m = m' + 1 := ⟨m - 1, by omega⟩
    exact ⟨iter s m' i, iter_lt hl hi m', he⟩
  obtain ⟨a', ha', rfl⟩ := himg a ha
  obtain ⟨b', hb', rfl⟩ := himg b hb
  rw [(hs2 a' ha').2, (hs2 b' hb').2] at h
  rw [h]
section
variable {K : Type}
/-- A map that makes different literals and variables different ones, and variables variables. -/
structure IsEmb (h : Nat → Tm K) (q r : Cj K) : Prop where
  head : q.head.map (Tm.app h) = r.head
  lits : ∃ c : Nat → Nat, (∀ (i : Nat) (l : Lt K), q.lits[i]? = some l → r.lits[c i]? = some (Lt.app h l)) ∧ ∀ i j, i < q.lits.length → j < q.lits.length → c i = c j → i = j
  vars : ∀ x, Occ q x → ∃ y, h x = .v y
  inj : ∀ x y, Occ q x → Occ q y → h x = h y → x = y
theorem hom_ix {h : Nat → Tm K} {q r : Cj K} (hh : IsHom h q r) : ∃ c : Nat → Nat, ∀ (i : Nat) (l : Lt K), q.lits[i]? = some l → r.lits[c i]? = some (Lt.app h l) := by
  have : ∀ i : Nat, ∃ j : Nat, ∀ l : Lt K, q.lits[i]? = some l → r.lits[j]? = some (Lt.app h l) := by
    intro i
    cases hq : q.lits[i]? with
    | none => exact ⟨0, fun l h => by cases h⟩
    | some l0 =>
      obtain ⟨j, hj, he⟩ := List.getElem_of_mem (hh.2 l0 (List.mem_of_getElem? hq))
      exact ⟨j, fun l hl => by injection hl with hl; subst hl; rw [List.getElem?_eq_getElem hj, he]⟩
  exact ⟨fun i => Classical.choose (this i), fun i => Classical.choose_spec (this i)⟩
theorem fix_head {e : Nat → Tm K} {l : List (Tm K)} (h : l.map (Tm.app e) = l) {x : Nat} (hx : Tm.v x ∈ l) : e x = .v x := by
  obtain ⟨p, hp, he⟩ := List.getElem_of_mem hx
  have h1 : (l.map (Tm.app e))[p]? = l[p]? := by rw [h]
  rw [List.getElem?_map, List.getElem?_eq_getElem hp, he] at h1
  injection h1
/-- An endomorphism of a query without a literal that can go meets each literal. -/
theorem endo_surj {e : Nat → Tm K} {q : Cj K} (he : IsHom e q q) (hcov : Cov q) (hr : ∀ j, j < q.lits.length → ¬ Rem q j) {φ : Nat → Nat} (hφ : ∀ (i : Nat) (l : Lt K), q.lits[i]? = some l → q.lits[φ i]? = some (Lt.app e l)) : ∀ j, j < q.lits.length → ∃ i, i < q.lits.length ∧ φ i = j := by
  intro j hj
  apply Classical.byContradiction
  intro hno
  have hne : ∀ i, i < q.lits.length → φ i ≠ j := fun i hi e => hno ⟨i, hi, e⟩
  have hin : ∀ l ∈ q.lits, Lt.app e l ∈ (q.del j).lits := by
    intro l hl
    obtain ⟨i, hi, rfl⟩ := List.getElem_of_mem hl
    exact mem_eraseIdx_ne (hφ i _ (List.getElem?_eq_getElem hi)) (hne i hi)
  refine hr j hj ⟨⟨fun x hx => ?_, ?_⟩, e, he.1, hin⟩
  · obtain ⟨l, hl, hm⟩ := hcov.1 x hx
    refine ⟨_, hin l hl, ?_⟩
    have h1 : Tm.app e (.v x) ∈ (Lt.app e l).2 := List.mem_map_of_mem hm
    have h2 : Tm.app e (.v x) = .v x := fix_head he.1 hx
    rwa [h2] at h1
  · cases hq : q.lits with
    | nil => rw [hq] at hj; cases hj
    | cons a l => exact List.length_pos_of_mem (hin a (by rw [hq]; simp))
theorem lt_of_some {α : Type} {l : List α} {i : Nat} {x : α} (h : l[i]? = some x) : i < l.length := (List.getElem?_eq_some_iff.1 h).1
def homPow (e : Nat → Tm K) : Nat → Nat → Tm K
  | 0, x => .v x
  | n + 1, x => Tm.app e (homPow e n x)
theorem pow_lit {e : Nat → Tm K} {q : Cj K} {φ : Nat → Nat} (hφ : ∀ (i : Nat) (l : Lt K), q.lits[i]? = some l → q.lits[φ i]? = some (Lt.app e l)) {i : Nat} {l : Lt K} (hl : q.lits[i]? = some l) : ∀ m, q.lits[iter φ m i]? = some (Lt.app (homPow e m) l)
  | 0 => by show q.lits[i]? = _; rw [hl]; exact congrArg some (Lt.app_v l).symm
  | m + 1 => by
    have h1 := hφ _ _ (pow_lit hφ hl m)
    rw [Lt.app_app] at h1
    exact h1
theorem map_fix {e : Nat → Tm K} {l : List (Tm K)} (h : l.map (Tm.app e) = l) {x : Nat} (hx : Tm.v x ∈ l) : e x = .v x := fix_head h hx
/-- Two queries without literals that can go, each mapped to the other: the map is an embedding. -/
theorem cores_emb {q r : Cj K} (hq : Cov q) (nq : ∀ j, j < q.lits.length → ¬ Rem q j) (h1 : Hom q r) (h2 : Hom r q) : (∃ f, IsEmb f q r) ∧ q.lits.length ≤ r.lits.length := by
  obtain ⟨f, hf⟩ := h1
  obtain ⟨g, hg⟩ := h2
  obtain ⟨c, hc⟩ := hom_ix hf
  obtain ⟨d, hd⟩ := hom_ix hg
  have he := hf.comp hg
  have hφ : ∀ (i : Nat) (l : Lt K), q.lits[i]? = some l → q.lits[d (c i)]? = some (Lt.app (fun x => Tm.app g (f x)) l) := fun i l hl => by rw [← Lt.app_app]; exact hd _ _ (hc i l hl)
  have hlt : ∀ i, i < q.lits.length → d (c i) < q.lits.length := fun i hi => lt_of_some (hφ i _ (List.getElem?_eq_getElem hi))
  have hsj := endo_surj he hq nq hφ
  have hinj : ∀ i j, i < q.lits.length → j < q.lits.length → d (c i) = d (c j) → i = j := fun i j hi hj e => inj_of_surj hsj hi hj e
  have hcinj : ∀ i j, i < q.lits.length → j < q.lits.length → c i = c j → i = j := fun i j hi hj e => hinj i j hi hj (by rw [e])
  have hback : ∀ x, Occ q x → ∃ i, i < q.lits.length ∧ ∀ m, iter (fun i => d (c i)) m i = i → homPow (fun x => Tm.app g (f x)) m x = .v x := by
    rintro x ⟨l, hl, hx⟩
    obtain ⟨i, hi, hil⟩ := List.getElem_of_mem hl
    refine ⟨i, hi, fun m hm => ?_⟩
    have hl2 : q.lits[i]? = some l := by rw [List.getElem?_eq_getElem hi, hil]
    have h3 := pow_lit hφ hl2 m
    rw [hm, hl2] at h3
    injection h3 with h3
    have h4 : l.2.map (Tm.app (homPow (fun x => Tm.app g (f x)) m)) = l.2 := (congrArg Prod.snd h3).symm
    exact map_fix h4 hx
  have hpos : ∀ x m, 0 < m → homPow (fun x => Tm.app g (f x)) m x = .v x → homPow (fun x => Tm.app g (f x)) m x = .v x := fun _ _ _ h => h
  have hstep : ∀ (e : Nat → Tm K) (m x : Nat), homPow e (m + 1) x = Tm.app (homPow e m) (e x) := by
    intro e m
    induction m with
    | zero => intro x; show Tm.app e (Tm.v x) = Tm.app Tm.v (e x); rw [Tm.app_v]; rfl
    | succ m ih =>
      intro x
      show Tm.app e (homPow e (m + 1) x) = Tm.app (homPow e (m + 1)) (e x)
      rw [ih x]
      cases e x <;> rfl
  have hcm : ∀ x, Occ q x → ∀ y, Occ q y → ∃ m, homPow (fun x => Tm.app g (f x)) (m + 1) x = .v x ∧ homPow (fun x => Tm.app g (f x)) (m + 1) y = .v y := by
    intro x hx y hy
    obtain ⟨i, hi, h3⟩ := hback x hx
    obtain ⟨j, hj, h4⟩ := hback y hy
    obtain ⟨m1, p1, b1⟩ := iter_back (f := fun i => d (c i)) hlt hinj hi
    obtain ⟨m2, p2, b2⟩ := iter_back (f := fun i => d (c i)) hlt hinj hj
    have hm : 0 < m1 * m2 := Nat.mul_pos p1 p2
    obtain ⟨m, hmm⟩ : ∃ m, m1 * m2 = m + 1 := ⟨m1 * m2 - 1, by omega⟩
    refine ⟨m, ?_, ?_⟩
    · rw [← hmm]; exact h3 _ (iter_mul b1 m2)
    · rw [← hmm, Nat.mul_comm]; exact h4 _ (iter_mul b2 m1)
  have hvar : ∀ x, Occ q x → ∃ y, f x = .v y := by
    intro x hx
    obtain ⟨m, h3, _⟩ := hcm x hx x hx
    rw [hstep] at h3
    cases hfx : f x with
    | v y => exact ⟨y, rfl⟩
    | c k =>
      have e : Tm.app g (f x) = .c k := by rw [hfx]; rfl
      rw [e] at h3
      cases h3
  refine ⟨⟨f, hf.1, ⟨c, hc, hcinj⟩, hvar, fun x y hx hy e => ?_⟩, ?_⟩
  · obtain ⟨m, h3, h4⟩ := hcm x hx y hy
    rw [hstep] at h3 h4
    have e2 : Tm.app g (f x) = Tm.app g (f y) := by rw [e]
    rw [e2, h4] at h3
    injection h3 with h3
    exact h3.symm
  · apply Classical.byContradiction
    intro hn
    obtain ⟨a, b, h3, h4, h5⟩ := php r.lits.length c (fun k hk => lt_of_some (hc k _ (List.getElem?_eq_getElem (by omega))))
    have := hcinj a b (by omega) (by omega) h5
    omega
end
end Go.Proofs.YtiijaaohphokcaaGreatDoor

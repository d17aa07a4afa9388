/- ref36.second; the texts of the families as plain lists: the reference's are the program's. -/
import Derived.Test.YtlkhiihehaiinaaDoorFFam
import Derived.Test.YtlkhiihehaiinaaDoorFCat
namespace Go.Proofs.YtlkhiihehaiinaaDoor
open Go.RowKit

def kindN : List UInt8 := [107, 105, 110, 100]
def aggN : List UInt8 := [97, 103, 103, 114, 101, 103, 97, 116, 101]
def appN : List UInt8 := [97, 112, 112, 101, 110, 100]
def kindW : List (List UInt8) := [[105, 110, 110, 101, 114], [108, 101, 102, 116], [114, 105, 103, 104, 116], [102, 117, 108, 108], [115, 101, 109, 105], [97, 110, 116, 105]]
def aggW : List (List UInt8) := [[114, 111, 119, 115], [99, 111, 117, 110, 116], [100, 105, 115, 116, 105, 110, 99, 116], [115, 117, 109], [109, 105, 110], [109, 97, 120]]
def appW : List (List UInt8) := [[49], [50]]
/-- The second parts of a family, each with its blank. -/
def secP (nm : List UInt8) (k : Nat) : List UInt8 := if nm = kindN then 32 :: kindW.getD k [] else if nm = aggN then 32 :: aggW.getD k [] else if nm = appN then 32 :: appW.getD k [] else []
def secOk (nm : List UInt8) (k : Nat) : Bool := if nm = kindN then k < 6 else if nm = aggN then k < 6 else if nm = appN then k < 2 else true

theorem mk_list (a : List UInt8) : (mk a).toList = a := by simp [ByteArray.toList_eq]
theorem mk_beq (a b : List UInt8) (h : a ≠ b) : ((mk a).toList == b) = false := by rw [beq_eq_false_iff_ne, mk_list]; exact h
theorem cells_new {w : World} {T : TypeId} {l : List (List UInt8)} {k : Nat} {x : List UInt8} (h : l[k]? = some x) : (w.alloc (.cells (l.map fun l => Value.string (mk l)).toArray T)).cell? ⟨w.heap.size, k, none⟩ = some (.string (mk x)) := by
  rw [World.cell?_alloc_at _ _ _ _ rfl, List.getElem?_toArray, List.getElem?_map, h]
  rfl

set_option maxRecDepth 100000 in
set_option maxHeartbeats 1000000 in
theorem second_any (nm : List UInt8) (k : Nat) (w : World) (h : secOk nm k = true) : Calls Tryd.prog 25 #[.string (mk nm), .int .i64 k] w fun e w' => e = .returned (.string (mk (secP nm k))) ∧ Below w.heap.size w w' := by
  by_cases h1 : nm = kindN
  · subst h1
    have hk : k < 6 := by simpa [secOk, kindN, aggN, appN] using h
    obtain ⟨x, hx⟩ : ∃ x, kindW[k]? = some x := ⟨_, List.getElem?_eq_getElem hk⟩
    have hr : secP kindN k = [32] ++ x := by unfold secP; rw [if_pos rfl, List.getD_eq_getElem?_getD, hx]; rfl
    have hc : (w.alloc (.cells #[.string (mk [105, 110, 110, 101, 114]), .string (mk [108, 101, 102, 116]), .string (mk [114, 105, 103, 104, 116]), .string (mk [102, 117, 108, 108]), .string (mk [115, 101, 109, 105]), .string (mk [97, 110, 116, 105])] 9)).cell? ⟨w.heap.size, k, none⟩ = some (.string (mk x)) := cells_new (l := kindW) hx
    have hki : (k : Int) < 6 := by omega
    have hsz : x.length ≤ 100 := by
      have hm := List.mem_of_getElem? hx
      have : kindW.all (fun l => decide (l.length ≤ 100)) = true := by decide
      exact of_decide_eq_true (List.all_eq_true.1 this x hm)
    rw [hr, ← mk_app]
    obtain ⟨y, hy⟩ : ∃ y, mk x = y := ⟨_, rfl⟩
    have hys : y.size ≤ 100 := by rw [← hy, mk_size]; exact hsz
    rw [hy] at hc ⊢
    clear hy hr hx h hsz
    go_enter Tryd.func25, Tryd.ntmps25
    go_wp2
    go_ret
    exact ⟨rfl, belA _⟩
  by_cases h2 : nm = aggN
  · subst h2
    have hk : k < 6 := by simpa [secOk, kindN, aggN, appN] using h
    obtain ⟨x, hx⟩ : ∃ x, aggW[k]? = some x := ⟨_, List.getElem?_eq_getElem hk⟩
    have hr : secP aggN k = [32] ++ x := by unfold secP; rw [if_neg (by decide)]; rw [if_pos rfl, List.getD_eq_getElem?_getD, hx]; rfl
    have hc : (w.alloc (.cells #[.string (mk [114, 111, 119, 115]), .string (mk [99, 111, 117, 110, 116]), .string (mk [100, 105, 115, 116, 105, 110, 99, 116]), .string (mk [115, 117, 109]), .string (mk [109, 105, 110]), .string (mk [109, 97, 120])] 9)).cell? ⟨w.heap.size, k, none⟩ = some (.string (mk x)) := cells_new (l := aggW) hx
    have hki : (k : Int) < 6 := by omega
    have hsz : x.length ≤ 100 := by
      have hm := List.mem_of_getElem? hx
      have : aggW.all (fun l => decide (l.length ≤ 100)) = true := by decide
      exact of_decide_eq_true (List.all_eq_true.1 this x hm)
    rw [hr, ← mk_app]
    obtain ⟨y, hy⟩ : ∃ y, mk x = y := ⟨_, rfl⟩
    have hys : y.size ≤ 100 := by rw [← hy, mk_size]; exact hsz
    rw [hy] at hc ⊢
    clear hy hr hx h hsz
    go_enter Tryd.func25, Tryd.ntmps25
    go_wp2
    go_ret
    exact ⟨rfl, belA _⟩
  by_cases h3 : nm = appN
  · subst h3
    have hk : k < 2 := by simpa [secOk, kindN, aggN, appN] using h
    obtain ⟨x, hx⟩ : ∃ x, appW[k]? = some x := ⟨_, List.getElem?_eq_getElem hk⟩
    have hr : secP appN k = [32] ++ x := by unfold secP; rw [if_neg (by decide)]; rw [if_neg (by decide)]; rw [if_pos rfl, List.getD_eq_getElem?_getD, hx]; rfl
    have hc : (w.alloc (.cells #[.string (mk [49]), .string (mk [50])] 9)).cell? ⟨w.heap.size, k, none⟩ = some (.string (mk x)) := cells_new (l := appW) hx
    have hki : (k : Int) < 2 := by omega
    have hsz : x.length ≤ 100 := by
      have hm := List.mem_of_getElem? hx
      have : appW.all (fun l => decide (l.length ≤ 100)) = true := by decide
      exact of_decide_eq_true (List.all_eq_true.1 this x hm)
    rw [hr, ← mk_app]
    obtain ⟨y, hy⟩ : ∃ y, mk x = y := ⟨_, rfl⟩
    have hys : y.size ≤ 100 := by rw [← hy, mk_size]; exact hsz
    rw [hy] at hc ⊢
    clear hy hr hx h hsz
    go_enter Tryd.func25, Tryd.ntmps25
    go_wp2
    go_ret
    exact ⟨rfl, belA _⟩
  have hr : secP nm k = [] := by unfold secP; rw [if_neg h1, if_neg h2, if_neg h3]
  have b1 := mk_beq _ _ h1
  have b2 := mk_beq _ _ h2
  have b3 := mk_beq _ _ h3
  obtain ⟨z, hz⟩ : ∃ z, mk nm = z := ⟨_, rfl⟩
  rw [hz] at b1 b2 b3 ⊢
  rw [hr]
  clear hr h hz h1 h2 h3
  unfold kindN at b1
  unfold aggN at b2
  unfold appN at b3
  go_enter Tryd.func25, Tryd.ntmps25
  go_wp2
  go_ret
  exact ⟨rfl, Below.refl _ _⟩

/-! ### The texts -/
abbrev FT.name (t : FT) : List UInt8 := t.1
abbrev FT.first (t : FT) : Int := t.2.1
abbrev FT.places (t : FT) : List Int := t.2.2.1
abbrev FT.parts (t : FT) : Int := t.2.2.2
def FT.cnt (t : FT) : Nat := t.places.length * t.parts.toNat
def FT.place (t : FT) (k : Nat) : Int := t.places.getD (k / t.parts.toNat) 0
def FT.word (t : FT) (k : Nat) : List UInt8 := if t.first < 74 then opsW.getD (t.place k - 6).toNat [] else pwsW.getD (t.place k - 1).toNat []
def FT.text (t : FT) (k : Nat) : List UInt8 := t.name ++ [32] ++ t.word k ++ secP t.name (k % t.parts.toNat)
def FT.ok (t : FT) : Bool := decide (1 ≤ t.first ∧ t.first + t.cnt ≤ 181) && decide (1 ≤ t.parts ∧ t.parts ≤ 6) && decide (t.places.length ≤ 40 ∧ t.name.length ≤ 40) &&
  (List.range t.cnt).all fun k => decide (k / t.parts.toNat < t.places.length) && (if t.first < 74 then decide (6 ≤ t.place k ∧ t.place k < 29) else decide (1 ≤ t.place k ∧ t.place k < 16)) && secOk t.name (k % t.parts.toNat) && textsL[(t.first - 1).toNat + k]? == some (t.text k) && decide ((t.word k).length ≤ 40)
theorem fam_ok : famTs.all FT.ok = true := by kernel_rfl
theorem fam_cover : (List.range 180).all (fun n => famTs.any fun t => decide (t.first ≤ (n : Int) + 1 ∧ (n : Int) + 1 < t.first + t.cnt)) = true := by kernel_rfl
end Go.Proofs.YtlkhiihehaiinaaDoor

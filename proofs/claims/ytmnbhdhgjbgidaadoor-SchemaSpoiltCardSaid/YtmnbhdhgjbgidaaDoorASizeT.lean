/- Laws on append: of nothing, of the elements of a row. What algebra.expressions gives. -/
import Derived.Test.YtmnbhdhgjbgidaaDoorQSize
import Derived.Test.YtmnbhdhgjbgidaaDoorTypes
import Derived.OwnWalk
namespace Go
theorem run_append_zero {P : Program} {w : World} (base : Nat) (t ty e : TypeId) (i : TypeInfo) (size : Nat) (ht : P.underlying t = some (.slice e)) (hi : P.info? e = some i)
    (v : Value) (n : Nat) (xs : List Value) (hown : w.ownsRow base e size v n xs) (ao : Option Addr) (c : Nat) : (Builtin.append_ #[t, t] ty #[v, .slice ao 0 c]).run P w = .ok v w := by
  rcases hown.2 with ⟨rfl, rfl⟩ | ⟨g, cap, cur, rfl, _, _, hnc, _⟩
  · cases ao <;> simp [Builtin.append_, run_underlying ht, sizeOf, typeInfo, hi, Builtin.lenOf, Builtin.firstCells, loadCells, loadCellsFrom]
  · cases ao <;> simp [Builtin.append_, run_underlying ht, sizeOf, typeInfo, hi, Builtin.lenOf, Builtin.firstCells, loadCells, loadCellsFrom, hnc, storeCells]
theorem wpList_append_zero {P : Program} {w : World} {ops : Array Oper} {rest : List Oper} {o : Oper} {a : Act} {Q : Exit → Act → World → Prop} (hgd : o.guard = none) (s x : Operand) (t : TypeId)
    (ho : o.op = .call { callee := .builtin .append, args := #[s, x], argTypes := #[t, t] })
    (base : Nat) (e : TypeId) (i : TypeInfo) (size : Nat) (ht : P.underlying t = some (.slice e)) (hi : P.info? e = some i)
    (v : Value) (n : Nat) (xs : List Value) (hs : a.eval s = v) (hown : w.ownsRow base e size v n xs) (ao : Option Addr) (c : Nat) (hx : a.eval x = .slice ao 0 c)
    (h : wpList P ops Q rest (a.put o.dst v) w) : wpList P ops Q (o :: rest) a w := by
  refine wpList_plain hgd fun K hK => ?_
  have hrun := run_append_zero (P := P) (w := w) base t o.type e i size ht hi v n xs hown ao c
  unfold Oper.wp
  simp [execOp, ho, resolve, invoke, builtin, hs, hx, hrun, Result.andThen]
  exact hK _ _ h
end Go
namespace Go.Proofs.YtmnbhdhgjbgidaaDoor
open Go.RowKit

theorem info_ex : (Tryd.prog.info? 45).map (fun i => (i.zero, i.size, i.bytes)) = some (some (.agg #[.int .i64 0, .int .i64 0, .int .i64 0, .string ByteArray.empty, .int .i64 0, .slice none 0 0]), 6, 72) := by kernel_rfl

/-- The cells behind a header, as the elements' cells one after the other. -/
theorem row_news {α : Type} {w : World} {size : Nat} {cells : α → List Value} {h : Hd} {xs : List α} (hs : ∀ x, (cells x).length = size) (hpos : 0 < size) (hr : Row w size cells h xs) (hx : 0 < xs.length) :
    h.ao = some ⟨h.b, h.o, none⟩ ∧ ∀ j u, (xs.flatMap cells)[j]? = some u → w.cell? ((⟨h.b, h.o, none⟩ : Addr).add j) = some u := by
  refine ⟨(hr.2.2.1 hx).1, fun j u hj => ?_⟩
  have hlt := (List.getElem?_eq_some_iff.1 hj).1
  rw [flatMap_len hs] at hlt
  have hi : j / size < xs.length := (Nat.div_lt_iff_lt_mul hpos).2 hlt
  have hm : j % size < size := Nat.mod_lt _ hpos
  have e : j / size * size + j % size = j := by rw [Nat.mul_comm]; exact Nat.div_add_mod _ _
  have h1 := flatMap_at hs xs (j / size) (j % size) hi hm
  rw [e, hj] at h1
  have h2 := hr.2.2.2 _ hi _ u h1.symm
  rw [Nat.add_assoc, e] at h2
  rw [Addr.add_lit]
  exact h2

/-- The expressions that a query uses. -/
def Qu.qcs (q : Qu) : List Ex := if q.op = 3 ∨ q.op = 5 then [q.cond] else []
def Qu.qes (q : Qu) : List Ex := if q.op = 4 ∨ q.op = 10 then q.exprs else []
def Qu.qas (q : Qu) : List Ex := if q.op = 10 then (q.aggs.filter fun a => a.fn != 1).map Agg.arg else []
theorem sizes_args : ∀ l : List Agg, Ex.sizes ((l.filter fun a => a.fn != 1).map Agg.arg) = (l.map asize).sum
  | [] => by simp [Ex.sizes]
  | a :: l => by
    have ih := sizes_args l
    by_cases h : a.fn = 1
    · simp [h, asize, ih]
    · simp [h, asize, Ex.sizes, ih]
theorem qcs_size (q : Qu) : Ex.sizes q.qcs = q.csz := by unfold Qu.qcs Qu.csz; split <;> simp [Ex.sizes]
theorem qes_size (q : Qu) : Ex.sizes q.qes = q.esz := by unfold Qu.qes Qu.esz; split <;> simp [Ex.sizes]
theorem qas_size (q : Qu) : Ex.sizes q.qas = q.asz := by unfold Qu.qas Qu.asz; split <;> simp [Ex.sizes, sizes_args]
theorem sizes_append (a b : List Ex) : Ex.sizes (a ++ b) = Ex.sizes a + Ex.sizes b := by
  induction a with
  | nil => simp [Ex.sizes]
  | cons x a ih => simp only [List.cons_append, Ex.sizes, ih]; omega
theorem qex_in {w : World} {q : Qu} (h : q.In w) : ∀ e ∈ q.qcs ++ q.qes ++ q.qas, e.In w := by
  intro e he
  rcases List.mem_append.1 he with he | he
  · rcases List.mem_append.1 he with he | he
    · unfold Qu.qcs at he; split at he
      · rw [List.mem_singleton.1 he]; exact h.flat.cd
      · cases he
    · unfold Qu.qes at he; split at he
      · exact h.flat.es e he
      · cases he
  · unfold Qu.qas at he; split at he
    · obtain ⟨a, ha, rfl⟩ := List.mem_map.1 he
      exact (h.flat.as a (List.mem_filter.1 ha).1).2
    · cases he
theorem fil_take {l : List Agg} {k : Nat} (h : k < l.length) : ((l.take (k + 1)).filter fun a => a.fn != 1).map Agg.arg = ((l.take k).filter fun a => a.fn != 1).map Agg.arg ++ (if l[k].fn = 1 then [] else [l[k].arg]) := by
  rw [List.take_succ_eq_append_getElem h, List.filter_append, List.map_append]
  congr 1
  by_cases e : l[k].fn = 1 <;> simp [e]
theorem ex_one {x : Ex} : ∀ u ∈ Ex.cells x, u.oneCell' = true := by
  intro u hu
  simp [Ex.cells] at hu
  rcases hu with rfl | rfl | rfl | rfl | rfl | rfl <;> rfl
theorem ex_ones {l : List Ex} : ∀ u ∈ l.flatMap Ex.cells, u.oneCell' = true := by
  intro u hu
  obtain ⟨x, _, hx⟩ := List.mem_flatMap.1 hu
  exact ex_one u hx
theorem exc_len (x : Ex) : (Ex.cells x).length = 6 := rfl
end Go.Proofs.YtmnbhdhgjbgidaaDoor

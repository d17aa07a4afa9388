/-
  NARROWER THAN 'FOR EVERY INPUT', by the rows' own cells (each row's printed sentence says how): SchemaFinds: loops · AlgebraSame: loops · SchemaOrders: loops · AlgebraSizes: loops.
  DERIVED. THE GIVEN ROWS OF THIS SEAT. 5 by the template 'for every input the law returns true; each argument reads behind the call as it read before'; 0 by the template 'total and deterministic' (their statements: YtmnbhdhgjbgidaaTotals.lean).
  GIVEN WITH THE SEED: the statements are not yours to turn. If you find one false, say at which input.
  Laid BY PROGRAM, IN A SANDBOX (cutbox-rows.mjs): the forced cells as the released guide's own fill.sh prints them over the translation 7a5a659249793eff… (all of the seat's roots in one cut). By AI agents, Wed Nov 11 2026. No macro, syntax, notation, axiom, sorry.
-/
import Derived.Test.YtmnbhdhgjbgidaaChecked
import GoSem.Claim
import GoSem.ClaimJoined
import GoSem.ClaimMapViews
import Derived.JoinedTies
import Derived.KernelRfl
namespace Go.Proofs.Ytmnbhdhgjbgidaa
/- THE CELL 'sum', in the pinned program and in every row, IS THE sha256 OF THE DUMP (.gsa) THAT YtmnbhdhgjbgidaaProg.lean LOADS. Nothing in Lean hashes anything: it is a label: what it is worth is what the hold of that sum in a sandbox is worth. -/
noncomputable def Try.pinned : Pinned := { name := "ytmnbhdhgjbgidaa", sum := "7a5a659249793eff381861e2c71c23ca17fdccfc0339a67e182aebb282108ed7", checked := Try.checked }
namespace Rows
def none {H : Type} : Left H := { results := [], args := [] }

/-- 'querylablaw03.SchemaFinds': WHATEVER THE INPUT: true; the input reads as it did. -/
def schemaFindsSpec : ChangeSpec := { name := "schemaFinds", fn := fun _ => fun
  | [d1, d2, d3, d4] => { results := [.lit (.bool true)], args := [d1, d2, d3, d4] }
  | _ => none }
def schemaFindsRow : OpenClaim := { program := "ytmnbhdhgjbgidaa", sum := "7a5a659249793eff381861e2c71c23ca17fdccfc0339a67e182aebb282108ed7", func := "querylab/querylablaw03.SchemaFinds", spec := "schemaFinds", unfollowed := true, recurses := true, loops := true, apart := false }
def SchemaFindsSaid : Prop := schemaFindsRow.holds Try.pinned (OpenSpec.ofChange schemaFindsSpec)

/-- ITS FALSE NEIGHBOUR: 'it returns false'. Refute it at one input. -/
def schemaFindsWrong : ChangeSpec := { name := "schemaFinds", fn := fun _ => fun
  | [d1, d2, d3, d4] => { results := [.lit (.bool false)], args := [d1, d2, d3, d4] }
  | _ => none }
def SchemaFindsWrongFalsely : Prop := schemaFindsRow.holds Try.pinned (OpenSpec.ofChange schemaFindsWrong)

/-- 'querylablaw04.AlgebraSame': WHATEVER THE INPUT: true; the input reads as it did. -/
def algebraSameSpec : ChangeSpec := { name := "algebraSame", fn := fun _ => fun
  | [d1, d2] => { results := [.lit (.bool true)], args := [d1, d2] }
  | _ => none }
def algebraSameRow : OpenClaim := { program := "ytmnbhdhgjbgidaa", sum := "7a5a659249793eff381861e2c71c23ca17fdccfc0339a67e182aebb282108ed7", func := "querylab/querylablaw04.AlgebraSame", spec := "algebraSame", unfollowed := true, recurses := true, loops := true, apart := false }
def AlgebraSameSaid : Prop := algebraSameRow.holds Try.pinned (OpenSpec.ofChange algebraSameSpec)

/-- ITS FALSE NEIGHBOUR: 'it returns false'. Refute it at one input. -/
def algebraSameWrong : ChangeSpec := { name := "algebraSame", fn := fun _ => fun
  | [d1, d2] => { results := [.lit (.bool false)], args := [d1, d2] }
  | _ => none }
def AlgebraSameWrongFalsely : Prop := algebraSameRow.holds Try.pinned (OpenSpec.ofChange algebraSameWrong)

/-- 'querylablaw03.SchemaOrders': WHATEVER THE INPUT: true; the input reads as it did. -/
def schemaOrdersSpec : ChangeSpec := { name := "schemaOrders", fn := fun _ => fun
  | [d] => { results := [.lit (.bool true)], args := [d] }
  | _ => none }
def schemaOrdersRow : OpenClaim := { program := "ytmnbhdhgjbgidaa", sum := "7a5a659249793eff381861e2c71c23ca17fdccfc0339a67e182aebb282108ed7", func := "querylab/querylablaw03.SchemaOrders", spec := "schemaOrders", unfollowed := true, recurses := true, loops := true, apart := false }
def SchemaOrdersSaid : Prop := schemaOrdersRow.holds Try.pinned (OpenSpec.ofChange schemaOrdersSpec)

/-- ITS FALSE NEIGHBOUR: 'it returns false'. Refute it at one input. -/
def schemaOrdersWrong : ChangeSpec := { name := "schemaOrders", fn := fun _ => fun
  | [d] => { results := [.lit (.bool false)], args := [d] }
  | _ => none }
def SchemaOrdersWrongFalsely : Prop := schemaOrdersRow.holds Try.pinned (OpenSpec.ofChange schemaOrdersWrong)

/-- 'querylablaw03.SchemaNames': WHATEVER THE INPUT: true; the input reads as it did. -/
def schemaNamesSpec : ChangeSpec := { name := "schemaNames", fn := fun _ => fun
  | [d1, d2] => { results := [.lit (.bool true)], args := [d1, d2] }
  | _ => none }
def schemaNamesRow : OpenClaim := { program := "ytmnbhdhgjbgidaa", sum := "7a5a659249793eff381861e2c71c23ca17fdccfc0339a67e182aebb282108ed7", func := "querylab/querylablaw03.SchemaNames", spec := "schemaNames", inPlace := ["internal/bytealg.IndexByteString", "internal/bytealg.IndexString"], named := ["internal/bytealg.MaxLen"], apart := false }
def SchemaNamesSaid : Prop := schemaNamesRow.holds Try.pinned (OpenSpec.ofChange schemaNamesSpec)

/-- ITS FALSE NEIGHBOUR: 'it returns false'. Refute it at one input. -/
def schemaNamesWrong : ChangeSpec := { name := "schemaNames", fn := fun _ => fun
  | [d1, d2] => { results := [.lit (.bool false)], args := [d1, d2] }
  | _ => none }
def SchemaNamesWrongFalsely : Prop := schemaNamesRow.holds Try.pinned (OpenSpec.ofChange schemaNamesWrong)

/-- 'querylablaw04.AlgebraSizes': WHATEVER THE INPUT: true; the input reads as it did. -/
def algebraSizesSpec : ChangeSpec := { name := "algebraSizes", fn := fun _ => fun
  | [d] => { results := [.lit (.bool true)], args := [d] }
  | _ => none }
def algebraSizesRow : OpenClaim := { program := "ytmnbhdhgjbgidaa", sum := "7a5a659249793eff381861e2c71c23ca17fdccfc0339a67e182aebb282108ed7", func := "querylab/querylablaw04.AlgebraSizes", spec := "algebraSizes", recurses := true, loops := true, apart := false }
def AlgebraSizesSaid : Prop := algebraSizesRow.holds Try.pinned (OpenSpec.ofChange algebraSizesSpec)

/-- ITS FALSE NEIGHBOUR: 'it returns false'. Refute it at one input. -/
def algebraSizesWrong : ChangeSpec := { name := "algebraSizes", fn := fun _ => fun
  | [d] => { results := [.lit (.bool false)], args := [d] }
  | _ => none }
def AlgebraSizesWrongFalsely : Prop := algebraSizesRow.holds Try.pinned (OpenSpec.ofChange algebraSizesWrong)

/- THE SECOND FORM. 'bulk': how many values and letters a reading holds, each counted each time it is reached (what is shared counts as often as it is met; a slice's spare places count too). A statement '..UptoSaid' is the law's where the arguments, and the package variables that the reading takes, are together of bulk at most 1048576: NARROWER than '..Said'. Prove '..Said' where nothing that the law and all that it calls make is longer than what came in: it says more and counts as full. Else prove '..UptoSaid'. A law counts once. -/
mutual
def uptoBulk {H : Type} : DataW H → Nat
  | .lit (.string bytes) => bytes.length + 1
  | .lit _ => 1
  | .nil => 1
  | .ptr d => uptoBulk d + 1
  | .slice elems spare => uptoBulkAll elems + uptoBulkAll spare + 1
  | .agg parts => uptoBulkAll parts + 1
  | .iface _ d => uptoBulk d + 1
  | .map entries => uptoBulkEntries entries + 1
  | .held _ => 1
def uptoBulkAll {H : Type} : List (DataW H) → Nat
  | [] => 0
  | d :: r => uptoBulk d + uptoBulkAll r
def uptoBulkEntries {H : Type} : List (Lit × DataW H) → Nat
  | [] => 0
  | x :: r => uptoBulkEntry x + uptoBulkEntries r
def uptoBulkEntry {H : Type} : Lit × DataW H → Nat
  | (.string bytes, d) => bytes.length + uptoBulk d + 1
  | (_, d) => uptoBulk d + 1
 end
def uptoSmall : (H : Type) → List (DataW H) → Bool := fun _ ds => decide (uptoBulkAll ds ≤ 1048576)
def OpenSpec.upto (s : _root_.Go.ChangeSpec) : _root_.Go.OpenSpec := { _root_.Go.OpenSpec.ofChange s with cond := some uptoSmall }

/-- 'querylablaw03.SchemaFinds', WHERE WHAT IT READS IS OF BULK AT MOST 1048576: true; the input reads as it did. -/
def schemaFindsUptoRow : OpenClaim := { program := "ytmnbhdhgjbgidaa", sum := "7a5a659249793eff381861e2c71c23ca17fdccfc0339a67e182aebb282108ed7", func := "querylab/querylablaw03.SchemaFinds", spec := "schemaFinds", unfollowed := true, recurses := true, loops := true, apart := false, narrowed := true }
def SchemaFindsUptoSaid : Prop := schemaFindsUptoRow.holds Try.pinned (OpenSpec.upto schemaFindsSpec)

/-- 'querylablaw04.AlgebraSame', WHERE WHAT IT READS IS OF BULK AT MOST 1048576: true; the input reads as it did. -/
def algebraSameUptoRow : OpenClaim := { program := "ytmnbhdhgjbgidaa", sum := "7a5a659249793eff381861e2c71c23ca17fdccfc0339a67e182aebb282108ed7", func := "querylab/querylablaw04.AlgebraSame", spec := "algebraSame", unfollowed := true, recurses := true, loops := true, apart := false, narrowed := true }
def AlgebraSameUptoSaid : Prop := algebraSameUptoRow.holds Try.pinned (OpenSpec.upto algebraSameSpec)

/-- 'querylablaw03.SchemaOrders', WHERE WHAT IT READS IS OF BULK AT MOST 1048576: true; the input reads as it did. -/
def schemaOrdersUptoRow : OpenClaim := { program := "ytmnbhdhgjbgidaa", sum := "7a5a659249793eff381861e2c71c23ca17fdccfc0339a67e182aebb282108ed7", func := "querylab/querylablaw03.SchemaOrders", spec := "schemaOrders", unfollowed := true, recurses := true, loops := true, apart := false, narrowed := true }
def SchemaOrdersUptoSaid : Prop := schemaOrdersUptoRow.holds Try.pinned (OpenSpec.upto schemaOrdersSpec)

/-- 'querylablaw03.SchemaNames', WHERE WHAT IT READS IS OF BULK AT MOST 1048576: true; the input reads as it did. -/
def schemaNamesUptoRow : OpenClaim := { program := "ytmnbhdhgjbgidaa", sum := "7a5a659249793eff381861e2c71c23ca17fdccfc0339a67e182aebb282108ed7", func := "querylab/querylablaw03.SchemaNames", spec := "schemaNames", inPlace := ["internal/bytealg.IndexByteString", "internal/bytealg.IndexString"], named := ["internal/bytealg.MaxLen"], apart := false, narrowed := true }
def SchemaNamesUptoSaid : Prop := schemaNamesUptoRow.holds Try.pinned (OpenSpec.upto schemaNamesSpec)

/-- 'querylablaw04.AlgebraSizes', WHERE WHAT IT READS IS OF BULK AT MOST 1048576: true; the input reads as it did. -/
def algebraSizesUptoRow : OpenClaim := { program := "ytmnbhdhgjbgidaa", sum := "7a5a659249793eff381861e2c71c23ca17fdccfc0339a67e182aebb282108ed7", func := "querylab/querylablaw04.AlgebraSizes", spec := "algebraSizes", recurses := true, loops := true, apart := false, narrowed := true }
def AlgebraSizesUptoSaid : Prop := algebraSizesUptoRow.holds Try.pinned (OpenSpec.upto algebraSizesSpec)

end Rows
end Go.Proofs.Ytmnbhdhgjbgidaa

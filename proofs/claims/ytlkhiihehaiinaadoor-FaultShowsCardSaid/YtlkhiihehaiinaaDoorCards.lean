/-
  DERIVED. GIVEN WITH THE SEED: THE CARDS: each row of YtlkhiihehaiinaaDoorRows.lean that lists a variable, with what it lists TIED to the program's text (the seventh form; the later family's looks); each row that meets fmt, with fmt's text TOLD by the authors' own Lean function (tested against real Go, not proved from fmt's source: count such statements apart). THE CARD IS WHAT COUNTS. Prove the row's statement (the work); the ties are given (YtlkhiihehaiinaaDoorTie.lean); close each card by the builder's one call (the guide's Derived/Test/ToyasCard.lean, 'card_holds'). Laid BY PROGRAM, IN A SANDBOX (cutbox-door.mjs). By AI agents, Wed Nov 11 2026. No macro, syntax, notation, axiom, sorry.
-/
import Derived.Test.YtlkhiihehaiinaaDoorRows
import GoSem.ClaimSeven
namespace Go.Proofs.YtlkhiihehaiinaaDoor
namespace Rows

/-- THE TIED CARD OF 'querylablaw36.FaultShows'. -/
def faultShowsCard : Claim7 := { stood := { row := faultShowsRow, standIns := [], harness := (true, "e624e2027a967c83054f2adafeba32b453e82f70b508a910c69c8e347bd24937"), looks := false }, kinds := [], alts := [], laidByText := true, laidKinds := [.data, .listed, .data, .data, .data, .pinned], laidTests := true, laidLooks := .later }
def FaultShowsCardSaid : Prop := Claim7.holds Tryd.pinned (.plain (OpenSpec.ofChange faultShowsSpec)) faultShowsCard

/-- THE TIED CARD OF 'querylablaw36.FaultNames'. -/
def faultNamesCard : Claim7 := { stood := { row := faultNamesRow, standIns := [], harness := (true, "e624e2027a967c83054f2adafeba32b453e82f70b508a910c69c8e347bd24937"), looks := false }, kinds := [], alts := [], laidByText := true, laidKinds := [.data, .listed, .data, .data, .data, .pinned], laidTests := true, laidLooks := .later }
def FaultNamesCardSaid : Prop := Claim7.holds Tryd.pinned (.plain (OpenSpec.ofChange faultNamesSpec)) faultNamesCard

/-- THE SECOND FORM's CARD OF 'querylablaw36.FaultShows'. -/
def faultShowsUptoCard : Claim7 := { stood := { row := faultShowsUptoRow, standIns := [], harness := (true, "e624e2027a967c83054f2adafeba32b453e82f70b508a910c69c8e347bd24937"), looks := false }, kinds := [], alts := [], laidByText := true, laidKinds := [.data, .listed, .data, .data, .data, .pinned], laidTests := true, laidLooks := .later }
def FaultShowsUptoCardSaid : Prop := Claim7.holds Tryd.pinned (.plain (OpenSpec.upto faultShowsSpec)) faultShowsUptoCard

/-- THE SECOND FORM's CARD OF 'querylablaw36.FaultNames'. -/
def faultNamesUptoCard : Claim7 := { stood := { row := faultNamesUptoRow, standIns := [], harness := (true, "e624e2027a967c83054f2adafeba32b453e82f70b508a910c69c8e347bd24937"), looks := false }, kinds := [], alts := [], laidByText := true, laidKinds := [.data, .listed, .data, .data, .data, .pinned], laidTests := true, laidLooks := .later }
def FaultNamesUptoCardSaid : Prop := Claim7.holds Tryd.pinned (.plain (OpenSpec.upto faultNamesSpec)) faultNamesUptoCard
end Rows
end Go.Proofs.YtlkhiihehaiinaaDoor

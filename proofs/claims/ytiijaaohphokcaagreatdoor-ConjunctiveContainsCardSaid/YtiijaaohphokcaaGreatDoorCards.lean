/-
  DERIVED. GIVEN WITH THE SEED: THE CARDS: each row of YtiijaaohphokcaaGreatDoorRows.lean that lists a variable, with what it lists TIED to the program's text (the seventh form; the later family's looks); each row that meets fmt, with fmt's text TOLD by the authors' own Lean function (tested against real Go, not proved from fmt's source: count such statements apart). THE CARD IS WHAT COUNTS. Prove the row's statement (the work); the ties are given (YtiijaaohphokcaaGreatDoorTie.lean); close each card by the builder's one call (the guide's Derived/Test/ToyasCard.lean, 'card_holds'). Laid BY PROGRAM, IN A SANDBOX (cutbox-door.mjs). By AI agents, Wed Nov 11 2026. No macro, syntax, notation, axiom, sorry.
-/
import Derived.Test.YtiijaaohphokcaaGreatDoorRows
import GoSem.ClaimSeven
namespace Go.Proofs.YtiijaaohphokcaaGreatDoor
namespace Rows

/-- THE TIED CARD OF 'querylablaw27.ConjunctiveCore'. -/
def conjunctiveCoreCard : Claim7 := { stood := { row := conjunctiveCoreRow, standIns := [], harness := (true, "352371c1930dd9b1014cb744ddd37bd9d1284c90cdb65e8be87aa04de3047577"), looks := false }, kinds := [], alts := [], laidByText := true, laidKinds := [.data], laidTests := true, laidLooks := .later }
def ConjunctiveCoreCardSaid : Prop := Claim7.holds Tryz.pinned (.plain (OpenSpec.ofChange conjunctiveCoreSpec)) conjunctiveCoreCard

/-- THE TIED CARD OF 'querylablaw27.ConjunctiveContains'. -/
def conjunctiveContainsCard : Claim7 := { stood := { row := conjunctiveContainsRow, standIns := [], harness := (true, "352371c1930dd9b1014cb744ddd37bd9d1284c90cdb65e8be87aa04de3047577"), looks := false }, kinds := [], alts := [], laidByText := true, laidKinds := [.data], laidTests := true, laidLooks := .later }
def ConjunctiveContainsCardSaid : Prop := Claim7.holds Tryz.pinned (.plain (OpenSpec.ofChange conjunctiveContainsSpec)) conjunctiveContainsCard

/-- THE TIED CARD OF 'querylablaw27.ConjunctiveBags'. -/
def conjunctiveBagsCard : Claim7 := { stood := { row := conjunctiveBagsRow, standIns := [], harness := (true, "352371c1930dd9b1014cb744ddd37bd9d1284c90cdb65e8be87aa04de3047577"), looks := false }, kinds := [], alts := [], laidByText := true, laidKinds := [.data], laidTests := true, laidLooks := .later }
def ConjunctiveBagsCardSaid : Prop := Claim7.holds Tryz.pinned (.plain (OpenSpec.ofChange conjunctiveBagsSpec)) conjunctiveBagsCard

/-- THE TIED CARD OF 'querylablaw27.ConjunctiveAnswers'. -/
def conjunctiveAnswersCard : Claim7 := { stood := { row := conjunctiveAnswersRow, standIns := [], harness := (true, "352371c1930dd9b1014cb744ddd37bd9d1284c90cdb65e8be87aa04de3047577"), looks := false }, kinds := [], alts := [], laidByText := true, laidKinds := [.data], laidTests := true, laidLooks := .later }
def ConjunctiveAnswersCardSaid : Prop := Claim7.holds Tryz.pinned (.plain (OpenSpec.ofChange conjunctiveAnswersSpec)) conjunctiveAnswersCard

/-- THE SECOND FORM's CARD OF 'querylablaw27.ConjunctiveCore'. -/
def conjunctiveCoreUptoCard : Claim7 := { stood := { row := conjunctiveCoreUptoRow, standIns := [], harness := (true, "352371c1930dd9b1014cb744ddd37bd9d1284c90cdb65e8be87aa04de3047577"), looks := false }, kinds := [], alts := [], laidByText := true, laidKinds := [.data], laidTests := true, laidLooks := .later }
def ConjunctiveCoreUptoCardSaid : Prop := Claim7.holds Tryz.pinned (.plain (OpenSpec.upto conjunctiveCoreSpec)) conjunctiveCoreUptoCard

/-- THE SECOND FORM's CARD OF 'querylablaw27.ConjunctiveContains'. -/
def conjunctiveContainsUptoCard : Claim7 := { stood := { row := conjunctiveContainsUptoRow, standIns := [], harness := (true, "352371c1930dd9b1014cb744ddd37bd9d1284c90cdb65e8be87aa04de3047577"), looks := false }, kinds := [], alts := [], laidByText := true, laidKinds := [.data], laidTests := true, laidLooks := .later }
def ConjunctiveContainsUptoCardSaid : Prop := Claim7.holds Tryz.pinned (.plain (OpenSpec.upto conjunctiveContainsSpec)) conjunctiveContainsUptoCard

/-- THE SECOND FORM's CARD OF 'querylablaw27.ConjunctiveBags'. -/
def conjunctiveBagsUptoCard : Claim7 := { stood := { row := conjunctiveBagsUptoRow, standIns := [], harness := (true, "352371c1930dd9b1014cb744ddd37bd9d1284c90cdb65e8be87aa04de3047577"), looks := false }, kinds := [], alts := [], laidByText := true, laidKinds := [.data], laidTests := true, laidLooks := .later }
def ConjunctiveBagsUptoCardSaid : Prop := Claim7.holds Tryz.pinned (.plain (OpenSpec.upto conjunctiveBagsSpec)) conjunctiveBagsUptoCard

/-- THE SECOND FORM's CARD OF 'querylablaw27.ConjunctiveAnswers'. -/
def conjunctiveAnswersUptoCard : Claim7 := { stood := { row := conjunctiveAnswersUptoRow, standIns := [], harness := (true, "352371c1930dd9b1014cb744ddd37bd9d1284c90cdb65e8be87aa04de3047577"), looks := false }, kinds := [], alts := [], laidByText := true, laidKinds := [.data], laidTests := true, laidLooks := .later }
def ConjunctiveAnswersUptoCardSaid : Prop := Claim7.holds Tryz.pinned (.plain (OpenSpec.upto conjunctiveAnswersSpec)) conjunctiveAnswersUptoCard
end Rows
end Go.Proofs.YtiijaaohphokcaaGreatDoor

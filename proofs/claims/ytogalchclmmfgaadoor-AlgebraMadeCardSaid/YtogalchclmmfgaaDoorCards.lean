/-
  DERIVED. GIVEN WITH THE SEED: THE CARDS: each row of YtogalchclmmfgaaDoorRows.lean that lists a variable, with what it lists TIED to the program's text (the seventh form; the later family's looks); each row that meets fmt, with fmt's text TOLD by the authors' own Lean function (tested against real Go, not proved from fmt's source: count such statements apart). THE CARD IS WHAT COUNTS. Prove the row's statement (the work); the ties are given (YtogalchclmmfgaaDoorTie.lean); close each card by the builder's one call (the guide's Derived/Test/ToyasCard.lean, 'card_holds'). Laid BY PROGRAM, IN A SANDBOX (cutbox-door.mjs). By AI agents, Wed Nov 11 2026. No macro, syntax, notation, axiom, sorry.
-/
import Derived.Test.YtogalchclmmfgaaDoorRows
import GoSem.ClaimSeven
namespace Go.Proofs.YtogalchclmmfgaaDoor
namespace Rows

/-- THE TIED CARD OF 'querylablaw03.SchemaSpoilt'. -/
def schemaSpoiltCard : Claim7 := { stood := { row := schemaSpoiltRow, standIns := [], harness := (true, "e7a4ddf73c40a8c2da351b83fcb69e345b99fe9304861e0a1792c9049a0e6cdb"), looks := false }, kinds := [], alts := [], laidByText := true, laidKinds := [.data], laidTests := true, laidLooks := .later }
def SchemaSpoiltCardSaid : Prop := Claim7.holds Tryd.pinned (.plain (OpenSpec.ofChange schemaSpoiltSpec)) schemaSpoiltCard

/-- THE TIED CARD OF 'querylablaw03.SchemaReferences'. -/
def schemaReferencesCard : Claim7 := { stood := { row := schemaReferencesRow, standIns := [], harness := (true, "e7a4ddf73c40a8c2da351b83fcb69e345b99fe9304861e0a1792c9049a0e6cdb"), looks := false }, kinds := [], alts := [], laidByText := true, laidKinds := [.data], laidTests := true, laidLooks := .later }
def SchemaReferencesCardSaid : Prop := Claim7.holds Tryd.pinned (.plain (OpenSpec.ofChange schemaReferencesSpec)) schemaReferencesCard

/-- THE TIED CARD OF 'querylablaw04.AlgebraMade'. -/
def algebraMadeCard : Claim7 := { stood := { row := algebraMadeRow, standIns := [], harness := (true, "e7a4ddf73c40a8c2da351b83fcb69e345b99fe9304861e0a1792c9049a0e6cdb"), looks := false }, kinds := [], alts := [], laidByText := true, laidKinds := [.data, .data], laidTests := true, laidLooks := .later }
def AlgebraMadeCardSaid : Prop := Claim7.holds Tryd.pinned (.plain (OpenSpec.ofChange algebraMadeSpec)) algebraMadeCard

/-- THE TIED CARD OF 'querylablaw04.AlgebraDeep'. -/
def algebraDeepCard : Claim7 := { stood := { row := algebraDeepRow, standIns := [], harness := (true, "e7a4ddf73c40a8c2da351b83fcb69e345b99fe9304861e0a1792c9049a0e6cdb"), looks := false }, kinds := [], alts := [], laidByText := true, laidKinds := [.data, .data], laidTests := true, laidLooks := .later }
def AlgebraDeepCardSaid : Prop := Claim7.holds Tryd.pinned (.plain (OpenSpec.ofChange algebraDeepSpec)) algebraDeepCard

/-- THE SECOND FORM's CARD OF 'querylablaw03.SchemaSpoilt'. -/
def schemaSpoiltUptoCard : Claim7 := { stood := { row := schemaSpoiltUptoRow, standIns := [], harness := (true, "e7a4ddf73c40a8c2da351b83fcb69e345b99fe9304861e0a1792c9049a0e6cdb"), looks := false }, kinds := [], alts := [], laidByText := true, laidKinds := [.data], laidTests := true, laidLooks := .later }
def SchemaSpoiltUptoCardSaid : Prop := Claim7.holds Tryd.pinned (.plain (OpenSpec.upto schemaSpoiltSpec)) schemaSpoiltUptoCard

/-- THE SECOND FORM's CARD OF 'querylablaw03.SchemaReferences'. -/
def schemaReferencesUptoCard : Claim7 := { stood := { row := schemaReferencesUptoRow, standIns := [], harness := (true, "e7a4ddf73c40a8c2da351b83fcb69e345b99fe9304861e0a1792c9049a0e6cdb"), looks := false }, kinds := [], alts := [], laidByText := true, laidKinds := [.data], laidTests := true, laidLooks := .later }
def SchemaReferencesUptoCardSaid : Prop := Claim7.holds Tryd.pinned (.plain (OpenSpec.upto schemaReferencesSpec)) schemaReferencesUptoCard

/-- THE SECOND FORM's CARD OF 'querylablaw04.AlgebraMade'. -/
def algebraMadeUptoCard : Claim7 := { stood := { row := algebraMadeUptoRow, standIns := [], harness := (true, "e7a4ddf73c40a8c2da351b83fcb69e345b99fe9304861e0a1792c9049a0e6cdb"), looks := false }, kinds := [], alts := [], laidByText := true, laidKinds := [.data, .data], laidTests := true, laidLooks := .later }
def AlgebraMadeUptoCardSaid : Prop := Claim7.holds Tryd.pinned (.plain (OpenSpec.upto algebraMadeSpec)) algebraMadeUptoCard

/-- THE SECOND FORM's CARD OF 'querylablaw04.AlgebraDeep'. -/
def algebraDeepUptoCard : Claim7 := { stood := { row := algebraDeepUptoRow, standIns := [], harness := (true, "e7a4ddf73c40a8c2da351b83fcb69e345b99fe9304861e0a1792c9049a0e6cdb"), looks := false }, kinds := [], alts := [], laidByText := true, laidKinds := [.data, .data], laidTests := true, laidLooks := .later }
def AlgebraDeepUptoCardSaid : Prop := Claim7.holds Tryd.pinned (.plain (OpenSpec.upto algebraDeepSpec)) algebraDeepUptoCard
end Rows
end Go.Proofs.YtogalchclmmfgaaDoor

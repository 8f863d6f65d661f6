/-
  DERIVED. GIVEN WITH THE SEED: THE CARDS: each row of YtaahcmnekjlacaaDoorRows.lean that lists a variable, with what it lists TIED to the program's text (the seventh form; the later family's looks); each row that meets fmt, with fmt's text TOLD by the authors' own Lean function (tested against real Go, not proved from fmt's source: count such statements apart). THE CARD IS WHAT COUNTS. Prove the row's statement (the work); the ties are given (YtaahcmnekjlacaaDoorTie.lean); close each card by the builder's one call (the guide's Derived/Test/ToyasCard.lean, 'card_holds'). Laid BY PROGRAM, IN A SANDBOX (cutbox-door.mjs). By AI agents, Wed Nov 11 2026. No macro, syntax, notation, axiom, sorry.
-/
import Derived.Test.YtaahcmnekjlacaaDoorRows
import GoSem.ClaimSeven
namespace Go.Proofs.YtaahcmnekjlacaaDoor
namespace Rows

/-- THE TIED CARD OF 'codicillaw17.IndexWrites'. -/
def indexWritesCard : Claim7 := { stood := { row := indexWritesRow, standIns := [], harness := (true, "970d621a9a9157d7b978baeff6cdb3e70a3e1063003c0bc285e8a19b2767c8b6"), looks := false }, kinds := [], alts := [], laidByText := true, laidKinds := [.data, .data, .data, .data, .pinned, .pinned], laidTests := true, laidLooks := .later }
def IndexWritesCardSaid : Prop := Claim7.holds Tryd.pinned (.plain (OpenSpec.ofChange indexWritesSpec)) indexWritesCard

/-- THE TIED CARD OF 'codicillaw17.IndexReads'. -/
def indexReadsCard : Claim7 := { stood := { row := indexReadsRow, standIns := [], harness := (true, "970d621a9a9157d7b978baeff6cdb3e70a3e1063003c0bc285e8a19b2767c8b6"), looks := false }, kinds := [], alts := [], laidByText := true, laidKinds := [.data, .data, .data, .data, .pinned, .pinned], laidTests := true, laidLooks := .later }
def IndexReadsCardSaid : Prop := Claim7.holds Tryd.pinned (.plain (OpenSpec.ofChange indexReadsSpec)) indexReadsCard

/-- THE TIED CARD OF 'codicillaw17.IndexBack'. -/
def indexBackCard : Claim7 := { stood := { row := indexBackRow, standIns := [], harness := (true, "970d621a9a9157d7b978baeff6cdb3e70a3e1063003c0bc285e8a19b2767c8b6"), looks := false }, kinds := [], alts := [], laidByText := true, laidKinds := [.data, .data, .data, .data, .pinned, .pinned], laidTests := true, laidLooks := .later }
def IndexBackCardSaid : Prop := Claim7.holds Tryd.pinned (.plain (OpenSpec.ofChange indexBackSpec)) indexBackCard

/-- THE TIED CARD OF 'codicillaw17.IndexFixed'. -/
def indexFixedCard : Claim7 := { stood := { row := indexFixedRow, standIns := [], harness := (true, "970d621a9a9157d7b978baeff6cdb3e70a3e1063003c0bc285e8a19b2767c8b6"), looks := false }, kinds := [], alts := [], laidByText := true, laidKinds := [.data, .data, .data, .data, .pinned, .pinned], laidTests := true, laidLooks := .later }
def IndexFixedCardSaid : Prop := Claim7.holds Tryd.pinned (.plain (OpenSpec.ofChange indexFixedSpec)) indexFixedCard

/-- THE TIED CARD OF 'codicillaw17.IndexMemory'. -/
def indexMemoryCard : Claim7 := { stood := { row := indexMemoryRow, standIns := [], harness := (true, "970d621a9a9157d7b978baeff6cdb3e70a3e1063003c0bc285e8a19b2767c8b6"), looks := false }, kinds := [], alts := [], laidByText := true, laidKinds := [.data, .data, .data, .data, .pinned, .pinned], laidTests := true, laidLooks := .later }
def IndexMemoryCardSaid : Prop := Claim7.holds Tryd.pinned (.plain (OpenSpec.ofChange indexMemorySpec)) indexMemoryCard

/-- THE TIED CARD OF 'codicillaw17.IndexOne'. -/
def indexOneCard : Claim7 := { stood := { row := indexOneRow, standIns := [], harness := (true, "970d621a9a9157d7b978baeff6cdb3e70a3e1063003c0bc285e8a19b2767c8b6"), looks := false }, kinds := [], alts := [], laidByText := true, laidKinds := [.data, .data, .data, .data, .pinned, .pinned], laidTests := true, laidLooks := .later }
def IndexOneCardSaid : Prop := Claim7.holds Tryd.pinned (.plain (OpenSpec.ofChange indexOneSpec)) indexOneCard

/-- THE TIED CARD OF 'codicillaw07.ObjectIds'. -/
def objectIdsCard : Claim7 := { stood := { row := objectIdsRow, standIns := [], harness := (true, "970d621a9a9157d7b978baeff6cdb3e70a3e1063003c0bc285e8a19b2767c8b6"), looks := false }, kinds := [], alts := [], laidByText := true, laidKinds := [.data, .data, .data, .data, .data, .data, .sentinel, .data, .pinned, .pinned], laidTests := true, laidLooks := .later }
def ObjectIdsCardSaid : Prop := Claim7.holds Tryd.pinned (.plain (OpenSpec.ofChange objectIdsSpec)) objectIdsCard

/-- THE SECOND FORM's CARD OF 'codicillaw17.IndexWrites'. -/
def indexWritesUptoCard : Claim7 := { stood := { row := indexWritesUptoRow, standIns := [], harness := (true, "970d621a9a9157d7b978baeff6cdb3e70a3e1063003c0bc285e8a19b2767c8b6"), looks := false }, kinds := [], alts := [], laidByText := true, laidKinds := [.data, .data, .data, .data, .pinned, .pinned], laidTests := true, laidLooks := .later }
def IndexWritesUptoCardSaid : Prop := Claim7.holds Tryd.pinned (.plain (OpenSpec.upto indexWritesSpec)) indexWritesUptoCard

/-- THE SECOND FORM's CARD OF 'codicillaw17.IndexReads'. -/
def indexReadsUptoCard : Claim7 := { stood := { row := indexReadsUptoRow, standIns := [], harness := (true, "970d621a9a9157d7b978baeff6cdb3e70a3e1063003c0bc285e8a19b2767c8b6"), looks := false }, kinds := [], alts := [], laidByText := true, laidKinds := [.data, .data, .data, .data, .pinned, .pinned], laidTests := true, laidLooks := .later }
def IndexReadsUptoCardSaid : Prop := Claim7.holds Tryd.pinned (.plain (OpenSpec.upto indexReadsSpec)) indexReadsUptoCard

/-- THE SECOND FORM's CARD OF 'codicillaw17.IndexBack'. -/
def indexBackUptoCard : Claim7 := { stood := { row := indexBackUptoRow, standIns := [], harness := (true, "970d621a9a9157d7b978baeff6cdb3e70a3e1063003c0bc285e8a19b2767c8b6"), looks := false }, kinds := [], alts := [], laidByText := true, laidKinds := [.data, .data, .data, .data, .pinned, .pinned], laidTests := true, laidLooks := .later }
def IndexBackUptoCardSaid : Prop := Claim7.holds Tryd.pinned (.plain (OpenSpec.upto indexBackSpec)) indexBackUptoCard

/-- THE SECOND FORM's CARD OF 'codicillaw17.IndexFixed'. -/
def indexFixedUptoCard : Claim7 := { stood := { row := indexFixedUptoRow, standIns := [], harness := (true, "970d621a9a9157d7b978baeff6cdb3e70a3e1063003c0bc285e8a19b2767c8b6"), looks := false }, kinds := [], alts := [], laidByText := true, laidKinds := [.data, .data, .data, .data, .pinned, .pinned], laidTests := true, laidLooks := .later }
def IndexFixedUptoCardSaid : Prop := Claim7.holds Tryd.pinned (.plain (OpenSpec.upto indexFixedSpec)) indexFixedUptoCard

/-- THE SECOND FORM's CARD OF 'codicillaw17.IndexMemory'. -/
def indexMemoryUptoCard : Claim7 := { stood := { row := indexMemoryUptoRow, standIns := [], harness := (true, "970d621a9a9157d7b978baeff6cdb3e70a3e1063003c0bc285e8a19b2767c8b6"), looks := false }, kinds := [], alts := [], laidByText := true, laidKinds := [.data, .data, .data, .data, .pinned, .pinned], laidTests := true, laidLooks := .later }
def IndexMemoryUptoCardSaid : Prop := Claim7.holds Tryd.pinned (.plain (OpenSpec.upto indexMemorySpec)) indexMemoryUptoCard

/-- THE SECOND FORM's CARD OF 'codicillaw17.IndexOne'. -/
def indexOneUptoCard : Claim7 := { stood := { row := indexOneUptoRow, standIns := [], harness := (true, "970d621a9a9157d7b978baeff6cdb3e70a3e1063003c0bc285e8a19b2767c8b6"), looks := false }, kinds := [], alts := [], laidByText := true, laidKinds := [.data, .data, .data, .data, .pinned, .pinned], laidTests := true, laidLooks := .later }
def IndexOneUptoCardSaid : Prop := Claim7.holds Tryd.pinned (.plain (OpenSpec.upto indexOneSpec)) indexOneUptoCard

/-- THE SECOND FORM's CARD OF 'codicillaw07.ObjectIds'. -/
def objectIdsUptoCard : Claim7 := { stood := { row := objectIdsUptoRow, standIns := [], harness := (true, "970d621a9a9157d7b978baeff6cdb3e70a3e1063003c0bc285e8a19b2767c8b6"), looks := false }, kinds := [], alts := [], laidByText := true, laidKinds := [.data, .data, .data, .data, .data, .data, .sentinel, .data, .pinned, .pinned], laidTests := true, laidLooks := .later }
def ObjectIdsUptoCardSaid : Prop := Claim7.holds Tryd.pinned (.plain (OpenSpec.upto objectIdsSpec)) objectIdsUptoCard
end Rows
end Go.Proofs.YtaahcmnekjlacaaDoor

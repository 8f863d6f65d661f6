/-
  DERIVED. GIVEN WITH THE SEED: THE CARDS: each row of YtmijmageicjfnaaDoorRows.lean that lists a variable, with what it lists TIED to the program's text (the seventh form; the later family's looks); each row that meets fmt, with fmt's text TOLD by the authors' own Lean function (tested against real Go, not proved from fmt's source: count such statements apart). THE CARD IS WHAT COUNTS. Prove the row's statement (the work); the ties are given (YtmijmageicjfnaaDoorTie.lean); close each card by the builder's one call (the guide's Derived/Test/ToyasCard.lean, 'card_holds'). Laid BY PROGRAM, IN A SANDBOX (cutbox-door.mjs). By AI agents, Wed Nov 11 2026. No macro, syntax, notation, axiom, sorry.
-/
import Derived.Test.YtmijmageicjfnaaDoorRows
import GoSem.ClaimSeven
namespace Go.Proofs.YtmijmageicjfnaaDoor
namespace Rows

/-- THE TIED CARD OF 'codicillaw06.NamesIdents'. -/
def namesIdentsCard : Claim7 := { stood := { row := namesIdentsRow, standIns := [], harness := (true, "02d8a37b423e0eb7e47cc767132fb9bbb6bf63d3173d14c5751dfe12c7137dfe"), looks := true }, kinds := [], alts := [], laidByText := true, laidKinds := [.data, .data, .data, .data, .sentinel, .sentinel, .data, .data, .pinned, .pinned], laidTests := true, laidLooks := .later }
def NamesIdentsCardSaid : Prop := Claim7.holds Tryd.pinned (.plain (OpenSpec.ofChange namesIdentsSpec)) namesIdentsCard

/-- THE TIED CARD OF 'codicillaw06.NamesBack'. -/
def namesBackCard : Claim7 := { stood := { row := namesBackRow, standIns := [], harness := (true, "02d8a37b423e0eb7e47cc767132fb9bbb6bf63d3173d14c5751dfe12c7137dfe"), looks := true }, kinds := [], alts := [], laidByText := true, laidKinds := [.data, .data, .data, .data, .sentinel, .sentinel, .data, .data, .pinned, .pinned], laidTests := true, laidLooks := .later }
def NamesBackCardSaid : Prop := Claim7.holds Tryd.pinned (.plain (OpenSpec.ofChange namesBackSpec)) namesBackCard

/-- THE TIED CARD OF 'codicillaw06.NamesOrder'. -/
def namesOrderCard : Claim7 := { stood := { row := namesOrderRow, standIns := [], harness := (true, "02d8a37b423e0eb7e47cc767132fb9bbb6bf63d3173d14c5751dfe12c7137dfe"), looks := true }, kinds := [], alts := [], laidByText := true, laidKinds := [.data, .data, .data, .data, .sentinel, .sentinel, .data, .data, .pinned, .pinned], laidTests := true, laidLooks := .later }
def NamesOrderCardSaid : Prop := Claim7.holds Tryd.pinned (.plain (OpenSpec.ofChange namesOrderSpec)) namesOrderCard

/-- THE TIED CARD OF 'codicillaw06.NamesParts'. -/
def namesPartsCard : Claim7 := { stood := { row := namesPartsRow, standIns := [], harness := (true, "02d8a37b423e0eb7e47cc767132fb9bbb6bf63d3173d14c5751dfe12c7137dfe"), looks := true }, kinds := [], alts := [], laidByText := true, laidKinds := [.data, .data, .data, .data, .sentinel, .sentinel, .data, .data, .pinned, .pinned], laidTests := true, laidLooks := .later }
def NamesPartsCardSaid : Prop := Claim7.holds Tryd.pinned (.plain (OpenSpec.ofChange namesPartsSpec)) namesPartsCard

/-- THE TIED CARD OF 'codicillaw06.NamesMay'. -/
def namesMayCard : Claim7 := { stood := { row := namesMayRow, standIns := [], harness := (true, "02d8a37b423e0eb7e47cc767132fb9bbb6bf63d3173d14c5751dfe12c7137dfe"), looks := true }, kinds := [], alts := [], laidByText := true, laidKinds := [.data, .data, .data, .data, .sentinel, .sentinel, .data, .data, .pinned, .pinned], laidTests := true, laidLooks := .later }
def NamesMayCardSaid : Prop := Claim7.holds Tryd.pinned (.plain (OpenSpec.ofChange namesMaySpec)) namesMayCard

/-- THE TIED CARD OF 'codicillaw06.NamesFixed'. -/
def namesFixedCard : Claim7 := { stood := { row := namesFixedRow, standIns := [], harness := (true, "02d8a37b423e0eb7e47cc767132fb9bbb6bf63d3173d14c5751dfe12c7137dfe"), looks := true }, kinds := [], alts := [], laidByText := true, laidKinds := [.data, .data, .data, .data, .sentinel, .sentinel, .data, .data, .pinned, .pinned], laidTests := true, laidLooks := .later }
def NamesFixedCardSaid : Prop := Claim7.holds Tryd.pinned (.plain (OpenSpec.ofChange namesFixedSpec)) namesFixedCard

/-- THE SECOND FORM's CARD OF 'codicillaw06.NamesIdents'. -/
def namesIdentsUptoCard : Claim7 := { stood := { row := namesIdentsUptoRow, standIns := [], harness := (true, "02d8a37b423e0eb7e47cc767132fb9bbb6bf63d3173d14c5751dfe12c7137dfe"), looks := true }, kinds := [], alts := [], laidByText := true, laidKinds := [.data, .data, .data, .data, .sentinel, .sentinel, .data, .data, .pinned, .pinned], laidTests := true, laidLooks := .later }
def NamesIdentsUptoCardSaid : Prop := Claim7.holds Tryd.pinned (.plain (OpenSpec.upto namesIdentsSpec)) namesIdentsUptoCard

/-- THE SECOND FORM's CARD OF 'codicillaw06.NamesBack'. -/
def namesBackUptoCard : Claim7 := { stood := { row := namesBackUptoRow, standIns := [], harness := (true, "02d8a37b423e0eb7e47cc767132fb9bbb6bf63d3173d14c5751dfe12c7137dfe"), looks := true }, kinds := [], alts := [], laidByText := true, laidKinds := [.data, .data, .data, .data, .sentinel, .sentinel, .data, .data, .pinned, .pinned], laidTests := true, laidLooks := .later }
def NamesBackUptoCardSaid : Prop := Claim7.holds Tryd.pinned (.plain (OpenSpec.upto namesBackSpec)) namesBackUptoCard

/-- THE SECOND FORM's CARD OF 'codicillaw06.NamesOrder'. -/
def namesOrderUptoCard : Claim7 := { stood := { row := namesOrderUptoRow, standIns := [], harness := (true, "02d8a37b423e0eb7e47cc767132fb9bbb6bf63d3173d14c5751dfe12c7137dfe"), looks := true }, kinds := [], alts := [], laidByText := true, laidKinds := [.data, .data, .data, .data, .sentinel, .sentinel, .data, .data, .pinned, .pinned], laidTests := true, laidLooks := .later }
def NamesOrderUptoCardSaid : Prop := Claim7.holds Tryd.pinned (.plain (OpenSpec.upto namesOrderSpec)) namesOrderUptoCard

/-- THE SECOND FORM's CARD OF 'codicillaw06.NamesParts'. -/
def namesPartsUptoCard : Claim7 := { stood := { row := namesPartsUptoRow, standIns := [], harness := (true, "02d8a37b423e0eb7e47cc767132fb9bbb6bf63d3173d14c5751dfe12c7137dfe"), looks := true }, kinds := [], alts := [], laidByText := true, laidKinds := [.data, .data, .data, .data, .sentinel, .sentinel, .data, .data, .pinned, .pinned], laidTests := true, laidLooks := .later }
def NamesPartsUptoCardSaid : Prop := Claim7.holds Tryd.pinned (.plain (OpenSpec.upto namesPartsSpec)) namesPartsUptoCard

/-- THE SECOND FORM's CARD OF 'codicillaw06.NamesMay'. -/
def namesMayUptoCard : Claim7 := { stood := { row := namesMayUptoRow, standIns := [], harness := (true, "02d8a37b423e0eb7e47cc767132fb9bbb6bf63d3173d14c5751dfe12c7137dfe"), looks := true }, kinds := [], alts := [], laidByText := true, laidKinds := [.data, .data, .data, .data, .sentinel, .sentinel, .data, .data, .pinned, .pinned], laidTests := true, laidLooks := .later }
def NamesMayUptoCardSaid : Prop := Claim7.holds Tryd.pinned (.plain (OpenSpec.upto namesMaySpec)) namesMayUptoCard

/-- THE SECOND FORM's CARD OF 'codicillaw06.NamesFixed'. -/
def namesFixedUptoCard : Claim7 := { stood := { row := namesFixedUptoRow, standIns := [], harness := (true, "02d8a37b423e0eb7e47cc767132fb9bbb6bf63d3173d14c5751dfe12c7137dfe"), looks := true }, kinds := [], alts := [], laidByText := true, laidKinds := [.data, .data, .data, .data, .sentinel, .sentinel, .data, .data, .pinned, .pinned], laidTests := true, laidLooks := .later }
def NamesFixedUptoCardSaid : Prop := Claim7.holds Tryd.pinned (.plain (OpenSpec.upto namesFixedSpec)) namesFixedUptoCard
end Rows
end Go.Proofs.YtmijmageicjfnaaDoor

/-
  DERIVED. GIVEN WITH THE SEED: THE CARDS: each row of YtabccggcfcppgaaGreatDoorRows.lean that lists a variable, with what it lists TIED to the program's text (the seventh form; the later family's looks); each row that meets fmt, with fmt's text TOLD by the authors' own Lean function (tested against real Go, not proved from fmt's source: count such statements apart). THE CARD IS WHAT COUNTS. Prove the row's statement (the work); the ties are given (YtabccggcfcppgaaGreatDoorTie.lean); close each card by the builder's one call (the guide's Derived/Test/ToyasCard.lean, 'card_holds'). Laid BY PROGRAM, IN A SANDBOX (cutbox-door.mjs). By AI agents, Wed Nov 11 2026. No macro, syntax, notation, axiom, sorry.
-/
import Derived.Test.YtabccggcfcppgaaGreatDoorRows
import GoSem.ClaimSeven
namespace Go.Proofs.YtabccggcfcppgaaGreatDoor
namespace Rows

/-- THE TIED CARD OF 'codicillaw09.PackWrites'. -/
def packWritesCard : Claim7 := { stood := { row := packWritesRow, standIns := [], harness := (true, "92cfc6b7291e6e910d6ce7e92a53732bbee9f7cad1d0603269adff0c579a7503"), looks := false }, kinds := [], alts := [], laidByText := true, laidKinds := [.data, .data, .data, .widerDeep, .data], laidTests := true, laidLooks := .later }
def PackWritesCardSaid : Prop := Claim7.holds Tryz.pinned (.plain (OpenSpec.ofChange packWritesSpec)) packWritesCard

/-- THE TIED CARD OF 'codicillaw09.PackThere'. -/
def packThereCard : Claim7 := { stood := { row := packThereRow, standIns := [], harness := (true, "92cfc6b7291e6e910d6ce7e92a53732bbee9f7cad1d0603269adff0c579a7503"), looks := false }, kinds := [], alts := [], laidByText := true, laidKinds := [.data, .data, .data, .widerDeep, .data], laidTests := true, laidLooks := .later }
def PackThereCardSaid : Prop := Claim7.holds Tryz.pinned (.plain (OpenSpec.ofChange packThereSpec)) packThereCard

/-- THE TIED CARD OF 'codicillaw09.PackMemory'. -/
def packMemoryCard : Claim7 := { stood := { row := packMemoryRow, standIns := [], harness := (true, "92cfc6b7291e6e910d6ce7e92a53732bbee9f7cad1d0603269adff0c579a7503"), looks := false }, kinds := [], alts := [], laidByText := true, laidKinds := [.data, .data, .data, .widerDeep, .data], laidTests := true, laidLooks := .later }
def PackMemoryCardSaid : Prop := Claim7.holds Tryz.pinned (.plain (OpenSpec.ofChange packMemorySpec)) packMemoryCard

/-- THE TIED CARD OF 'codicillaw15.ReftableWrites'. -/
def reftableWritesCard : Claim7 := { stood := { row := reftableWritesRow, standIns := [], harness := (true, "92cfc6b7291e6e910d6ce7e92a53732bbee9f7cad1d0603269adff0c579a7503"), looks := false }, kinds := [], alts := [], laidByText := true, laidKinds := [.data, .widerDeep, .pinned], laidTests := true, laidLooks := .later }
def ReftableWritesCardSaid : Prop := Claim7.holds Tryz.pinned (.plain (OpenSpec.ofChange reftableWritesSpec)) reftableWritesCard

/-- THE TIED CARD OF 'codicillaw15.ReftableReads'. -/
def reftableReadsCard : Claim7 := { stood := { row := reftableReadsRow, standIns := [], harness := (true, "92cfc6b7291e6e910d6ce7e92a53732bbee9f7cad1d0603269adff0c579a7503"), looks := false }, kinds := [], alts := [], laidByText := true, laidKinds := [.data, .widerDeep, .pinned], laidTests := true, laidLooks := .later }
def ReftableReadsCardSaid : Prop := Claim7.holds Tryz.pinned (.plain (OpenSpec.ofChange reftableReadsSpec)) reftableReadsCard

/-- THE TIED CARD OF 'codicillaw15.ReftableBack'. -/
def reftableBackCard : Claim7 := { stood := { row := reftableBackRow, standIns := [], harness := (true, "92cfc6b7291e6e910d6ce7e92a53732bbee9f7cad1d0603269adff0c579a7503"), looks := false }, kinds := [], alts := [], laidByText := true, laidKinds := [.data, .widerDeep, .pinned], laidTests := true, laidLooks := .later }
def ReftableBackCardSaid : Prop := Claim7.holds Tryz.pinned (.plain (OpenSpec.ofChange reftableBackSpec)) reftableBackCard

/-- THE TIED CARD OF 'codicillaw15.ReftableFixed'. -/
def reftableFixedCard : Claim7 := { stood := { row := reftableFixedRow, standIns := [], harness := (true, "92cfc6b7291e6e910d6ce7e92a53732bbee9f7cad1d0603269adff0c579a7503"), looks := false }, kinds := [], alts := [], laidByText := true, laidKinds := [.data, .widerDeep, .pinned], laidTests := true, laidLooks := .later }
def ReftableFixedCardSaid : Prop := Claim7.holds Tryz.pinned (.plain (OpenSpec.ofChange reftableFixedSpec)) reftableFixedCard

/-- THE TIED CARD OF 'codicillaw15.ReftableMemory'. -/
def reftableMemoryCard : Claim7 := { stood := { row := reftableMemoryRow, standIns := [], harness := (true, "92cfc6b7291e6e910d6ce7e92a53732bbee9f7cad1d0603269adff0c579a7503"), looks := false }, kinds := [], alts := [], laidByText := true, laidKinds := [.data, .widerDeep, .pinned], laidTests := true, laidLooks := .later }
def ReftableMemoryCardSaid : Prop := Claim7.holds Tryz.pinned (.plain (OpenSpec.ofChange reftableMemorySpec)) reftableMemoryCard

/-- THE TIED CARD OF 'codicillaw09.PackChains'. -/
def packChainsCard : Claim7 := { stood := { row := packChainsRow, standIns := [], harness := (true, "92cfc6b7291e6e910d6ce7e92a53732bbee9f7cad1d0603269adff0c579a7503"), looks := false }, kinds := [], alts := [], laidByText := true, laidKinds := [.data, .data, .data, .widerDeep, .data], laidTests := true, laidLooks := .later }
def PackChainsCardSaid : Prop := Claim7.holds Tryz.pinned (.plain (OpenSpec.ofChange packChainsSpec)) packChainsCard

/-- THE TIED CARD OF 'codicillaw13.LoosePacks'. -/
def loosePacksCard : Claim7 := { stood := { row := loosePacksRow, standIns := [], harness := (true, "92cfc6b7291e6e910d6ce7e92a53732bbee9f7cad1d0603269adff0c579a7503"), looks := false }, kinds := [], alts := [], laidByText := true, laidKinds := [.data, .data, .data, .data, .widerDeep, .data, .data, .data, .pinned, .pinned], laidTests := true, laidLooks := .later }
def LoosePacksCardSaid : Prop := Claim7.holds Tryz.pinned (.plain (OpenSpec.ofChange loosePacksSpec)) loosePacksCard

/-- THE TIED CARD OF 'codicillaw13.LooseFixed'. -/
def looseFixedCard : Claim7 := { stood := { row := looseFixedRow, standIns := [], harness := (true, "92cfc6b7291e6e910d6ce7e92a53732bbee9f7cad1d0603269adff0c579a7503"), looks := false }, kinds := [], alts := [], laidByText := true, laidKinds := [.data, .data, .data, .data, .widerDeep, .data, .data, .data, .pinned, .pinned], laidTests := true, laidLooks := .later }
def LooseFixedCardSaid : Prop := Claim7.holds Tryz.pinned (.plain (OpenSpec.ofChange looseFixedSpec)) looseFixedCard

/-- THE SECOND FORM's CARD OF 'codicillaw09.PackWrites'. -/
def packWritesUptoCard : Claim7 := { stood := { row := packWritesUptoRow, standIns := [], harness := (true, "92cfc6b7291e6e910d6ce7e92a53732bbee9f7cad1d0603269adff0c579a7503"), looks := false }, kinds := [], alts := [], laidByText := true, laidKinds := [.data, .data, .data, .widerDeep, .data], laidTests := true, laidLooks := .later }
def PackWritesUptoCardSaid : Prop := Claim7.holds Tryz.pinned (.plain (OpenSpec.upto packWritesSpec)) packWritesUptoCard

/-- THE SECOND FORM's CARD OF 'codicillaw09.PackThere'. -/
def packThereUptoCard : Claim7 := { stood := { row := packThereUptoRow, standIns := [], harness := (true, "92cfc6b7291e6e910d6ce7e92a53732bbee9f7cad1d0603269adff0c579a7503"), looks := false }, kinds := [], alts := [], laidByText := true, laidKinds := [.data, .data, .data, .widerDeep, .data], laidTests := true, laidLooks := .later }
def PackThereUptoCardSaid : Prop := Claim7.holds Tryz.pinned (.plain (OpenSpec.upto packThereSpec)) packThereUptoCard

/-- THE SECOND FORM's CARD OF 'codicillaw09.PackMemory'. -/
def packMemoryUptoCard : Claim7 := { stood := { row := packMemoryUptoRow, standIns := [], harness := (true, "92cfc6b7291e6e910d6ce7e92a53732bbee9f7cad1d0603269adff0c579a7503"), looks := false }, kinds := [], alts := [], laidByText := true, laidKinds := [.data, .data, .data, .widerDeep, .data], laidTests := true, laidLooks := .later }
def PackMemoryUptoCardSaid : Prop := Claim7.holds Tryz.pinned (.plain (OpenSpec.upto packMemorySpec)) packMemoryUptoCard

/-- THE SECOND FORM's CARD OF 'codicillaw15.ReftableWrites'. -/
def reftableWritesUptoCard : Claim7 := { stood := { row := reftableWritesUptoRow, standIns := [], harness := (true, "92cfc6b7291e6e910d6ce7e92a53732bbee9f7cad1d0603269adff0c579a7503"), looks := false }, kinds := [], alts := [], laidByText := true, laidKinds := [.data, .widerDeep, .pinned], laidTests := true, laidLooks := .later }
def ReftableWritesUptoCardSaid : Prop := Claim7.holds Tryz.pinned (.plain (OpenSpec.upto reftableWritesSpec)) reftableWritesUptoCard

/-- THE SECOND FORM's CARD OF 'codicillaw15.ReftableReads'. -/
def reftableReadsUptoCard : Claim7 := { stood := { row := reftableReadsUptoRow, standIns := [], harness := (true, "92cfc6b7291e6e910d6ce7e92a53732bbee9f7cad1d0603269adff0c579a7503"), looks := false }, kinds := [], alts := [], laidByText := true, laidKinds := [.data, .widerDeep, .pinned], laidTests := true, laidLooks := .later }
def ReftableReadsUptoCardSaid : Prop := Claim7.holds Tryz.pinned (.plain (OpenSpec.upto reftableReadsSpec)) reftableReadsUptoCard

/-- THE SECOND FORM's CARD OF 'codicillaw15.ReftableBack'. -/
def reftableBackUptoCard : Claim7 := { stood := { row := reftableBackUptoRow, standIns := [], harness := (true, "92cfc6b7291e6e910d6ce7e92a53732bbee9f7cad1d0603269adff0c579a7503"), looks := false }, kinds := [], alts := [], laidByText := true, laidKinds := [.data, .widerDeep, .pinned], laidTests := true, laidLooks := .later }
def ReftableBackUptoCardSaid : Prop := Claim7.holds Tryz.pinned (.plain (OpenSpec.upto reftableBackSpec)) reftableBackUptoCard

/-- THE SECOND FORM's CARD OF 'codicillaw15.ReftableFixed'. -/
def reftableFixedUptoCard : Claim7 := { stood := { row := reftableFixedUptoRow, standIns := [], harness := (true, "92cfc6b7291e6e910d6ce7e92a53732bbee9f7cad1d0603269adff0c579a7503"), looks := false }, kinds := [], alts := [], laidByText := true, laidKinds := [.data, .widerDeep, .pinned], laidTests := true, laidLooks := .later }
def ReftableFixedUptoCardSaid : Prop := Claim7.holds Tryz.pinned (.plain (OpenSpec.upto reftableFixedSpec)) reftableFixedUptoCard

/-- THE SECOND FORM's CARD OF 'codicillaw15.ReftableMemory'. -/
def reftableMemoryUptoCard : Claim7 := { stood := { row := reftableMemoryUptoRow, standIns := [], harness := (true, "92cfc6b7291e6e910d6ce7e92a53732bbee9f7cad1d0603269adff0c579a7503"), looks := false }, kinds := [], alts := [], laidByText := true, laidKinds := [.data, .widerDeep, .pinned], laidTests := true, laidLooks := .later }
def ReftableMemoryUptoCardSaid : Prop := Claim7.holds Tryz.pinned (.plain (OpenSpec.upto reftableMemorySpec)) reftableMemoryUptoCard

/-- THE SECOND FORM's CARD OF 'codicillaw09.PackChains'. -/
def packChainsUptoCard : Claim7 := { stood := { row := packChainsUptoRow, standIns := [], harness := (true, "92cfc6b7291e6e910d6ce7e92a53732bbee9f7cad1d0603269adff0c579a7503"), looks := false }, kinds := [], alts := [], laidByText := true, laidKinds := [.data, .data, .data, .widerDeep, .data], laidTests := true, laidLooks := .later }
def PackChainsUptoCardSaid : Prop := Claim7.holds Tryz.pinned (.plain (OpenSpec.upto packChainsSpec)) packChainsUptoCard

/-- THE SECOND FORM's CARD OF 'codicillaw13.LoosePacks'. -/
def loosePacksUptoCard : Claim7 := { stood := { row := loosePacksUptoRow, standIns := [], harness := (true, "92cfc6b7291e6e910d6ce7e92a53732bbee9f7cad1d0603269adff0c579a7503"), looks := false }, kinds := [], alts := [], laidByText := true, laidKinds := [.data, .data, .data, .data, .widerDeep, .data, .data, .data, .pinned, .pinned], laidTests := true, laidLooks := .later }
def LoosePacksUptoCardSaid : Prop := Claim7.holds Tryz.pinned (.plain (OpenSpec.upto loosePacksSpec)) loosePacksUptoCard

/-- THE SECOND FORM's CARD OF 'codicillaw13.LooseFixed'. -/
def looseFixedUptoCard : Claim7 := { stood := { row := looseFixedUptoRow, standIns := [], harness := (true, "92cfc6b7291e6e910d6ce7e92a53732bbee9f7cad1d0603269adff0c579a7503"), looks := false }, kinds := [], alts := [], laidByText := true, laidKinds := [.data, .data, .data, .data, .widerDeep, .data, .data, .data, .pinned, .pinned], laidTests := true, laidLooks := .later }
def LooseFixedUptoCardSaid : Prop := Claim7.holds Tryz.pinned (.plain (OpenSpec.upto looseFixedSpec)) looseFixedUptoCard
end Rows
end Go.Proofs.YtabccggcfcppgaaGreatDoor

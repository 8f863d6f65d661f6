/-
  DERIVED. GIVEN WITH THE SEED: THE CARDS: each row of YthlnjgdoodjgoaaDoorRows.lean that lists a variable, with what it lists TIED to the program's text (the seventh form; the later family's looks); each row that meets fmt, with fmt's text TOLD by the authors' own Lean function (tested against real Go, not proved from fmt's source: count such statements apart). THE CARD IS WHAT COUNTS. Prove the row's statement (the work); the ties are given (YthlnjgdoodjgoaaDoorTie.lean); close each card by the builder's one call (the guide's Derived/Test/ToyasCard.lean, 'card_holds'). Laid BY PROGRAM, IN A SANDBOX (cutbox-door.mjs). By AI agents, Wed Nov 11 2026. No macro, syntax, notation, axiom, sorry.
-/
import Derived.Test.YthlnjgdoodjgoaaDoorRows
import GoSem.ClaimSeven
namespace Go.Proofs.YthlnjgdoodjgoaaDoor
namespace Rows

/-- THE TIED CARD OF 'codicillaw07.ObjectIds'. -/
def objectIdsCard : Claim7 := { stood := { row := objectIdsRow, standIns := [], harness := (true, "a74a5cbd7492c8fbe1a083949bc39ce075868043f3e2b6fb82526041211cc2f7"), looks := false }, kinds := [], alts := [], laidByText := true, laidKinds := [.data, .data, .data, .data, .data, .data, .sentinel, .data, .pinned, .pinned], laidTests := true, laidLooks := .later }
def ObjectIdsCardSaid : Prop := Claim7.holds Tryd.pinned (.plain (OpenSpec.ofChange objectIdsSpec)) objectIdsCard

/-- THE SECOND FORM's CARD OF 'codicillaw07.ObjectIds'. -/
def objectIdsUptoCard : Claim7 := { stood := { row := objectIdsUptoRow, standIns := [], harness := (true, "a74a5cbd7492c8fbe1a083949bc39ce075868043f3e2b6fb82526041211cc2f7"), looks := false }, kinds := [], alts := [], laidByText := true, laidKinds := [.data, .data, .data, .data, .data, .data, .sentinel, .data, .pinned, .pinned], laidTests := true, laidLooks := .later }
def ObjectIdsUptoCardSaid : Prop := Claim7.holds Tryd.pinned (.plain (OpenSpec.upto objectIdsSpec)) objectIdsUptoCard
end Rows
end Go.Proofs.YthlnjgdoodjgoaaDoor

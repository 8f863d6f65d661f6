/-
  DERIVED. GIVEN WITH THE SEED: THE CARDS: each row of YthlnjgdoodjgoaaGreatDoorRows.lean that lists a variable, with what it lists TIED to the program's text (the seventh form; the later family's looks); each row that meets fmt, with fmt's text TOLD by the authors' own Lean function (tested against real Go, not proved from fmt's source: count such statements apart). THE CARD IS WHAT COUNTS. Prove the row's statement (the work); the ties are given (YthlnjgdoodjgoaaGreatDoorTie.lean); close each card by the builder's one call (the guide's Derived/Test/ToyasCard.lean, 'card_holds'). Laid BY PROGRAM, IN A SANDBOX (cutbox-door.mjs). By AI agents, Wed Nov 11 2026. No macro, syntax, notation, axiom, sorry.
-/
import Derived.Test.YthlnjgdoodjgoaaGreatDoorRows
import GoSem.ClaimSeven
namespace Go.Proofs.YthlnjgdoodjgoaaGreatDoor
namespace Rows

/-- THE TIED CARD OF 'codicillaw07.ObjectTrees'. -/
def objectTreesCard : Claim7 := { stood := { row := objectTreesRow, standIns := [], harness := (true, "fd80869c8fac3c3139635b134a9a6a5d1449bf6f93f58626c915fd4731e7b9b1"), looks := true }, kinds := [], alts := [], laidByText := true, laidKinds := [.data, .data, .data, .data, .sentinel, .sentinel, .data, .data, .sentinel, .data, .pinned, .pinned], laidTests := true, laidLooks := .later }
def ObjectTreesCardSaid : Prop := Claim7.holds Tryz.pinned (.plain (OpenSpec.ofChange objectTreesSpec)) objectTreesCard

/-- THE TIED CARD OF 'codicillaw07.ObjectTags'. -/
def objectTagsCard : Claim7 := { stood := { row := objectTagsRow, standIns := [], harness := (true, "fd80869c8fac3c3139635b134a9a6a5d1449bf6f93f58626c915fd4731e7b9b1"), looks := true }, kinds := [], alts := [], laidByText := true, laidKinds := [.data, .data, .data, .data, .sentinel, .sentinel, .data, .data, .sentinel, .data, .pinned, .pinned], laidTests := true, laidLooks := .later }
def ObjectTagsCardSaid : Prop := Claim7.holds Tryz.pinned (.plain (OpenSpec.ofChange objectTagsSpec)) objectTagsCard

/-- THE TIED CARD OF 'codicillaw07.ObjectCommits'. -/
def objectCommitsCard : Claim7 := { stood := { row := objectCommitsRow, standIns := [], harness := (true, "fd80869c8fac3c3139635b134a9a6a5d1449bf6f93f58626c915fd4731e7b9b1"), looks := true }, kinds := [], alts := [], laidByText := true, laidKinds := [.data, .data, .data, .data, .sentinel, .sentinel, .data, .data, .sentinel, .data, .pinned, .pinned], laidTests := true, laidLooks := .later }
def ObjectCommitsCardSaid : Prop := Claim7.holds Tryz.pinned (.plain (OpenSpec.ofChange objectCommitsSpec)) objectCommitsCard

/-- THE TIED CARD OF 'codicillaw07.ObjectMemory'. -/
def objectMemoryCard : Claim7 := { stood := { row := objectMemoryRow, standIns := [], harness := (true, "fd80869c8fac3c3139635b134a9a6a5d1449bf6f93f58626c915fd4731e7b9b1"), looks := true }, kinds := [], alts := [], laidByText := true, laidKinds := [.data, .data, .data, .data, .sentinel, .sentinel, .data, .data, .sentinel, .data, .pinned, .pinned], laidTests := true, laidLooks := .later }
def ObjectMemoryCardSaid : Prop := Claim7.holds Tryz.pinned (.plain (OpenSpec.ofChange objectMemorySpec)) objectMemoryCard

/-- THE TIED CARD OF 'codicillaw07.ObjectChecks'. -/
def objectChecksCard : Claim7 := { stood := { row := objectChecksRow, standIns := [], harness := (true, "fd80869c8fac3c3139635b134a9a6a5d1449bf6f93f58626c915fd4731e7b9b1"), looks := true }, kinds := [], alts := [], laidByText := true, laidKinds := [.data, .data, .data, .data, .sentinel, .sentinel, .data, .data, .sentinel, .data, .pinned, .pinned], laidTests := true, laidLooks := .later }
def ObjectChecksCardSaid : Prop := Claim7.holds Tryz.pinned (.plain (OpenSpec.ofChange objectChecksSpec)) objectChecksCard

/-- THE TIED CARD OF 'codicillaw07.ObjectBack'. -/
def objectBackCard : Claim7 := { stood := { row := objectBackRow, standIns := [], harness := (true, "fd80869c8fac3c3139635b134a9a6a5d1449bf6f93f58626c915fd4731e7b9b1"), looks := true }, kinds := [], alts := [], laidByText := true, laidKinds := [.data, .data, .data, .data, .sentinel, .sentinel, .data, .data, .sentinel, .data, .pinned, .pinned], laidTests := true, laidLooks := .later }
def ObjectBackCardSaid : Prop := Claim7.holds Tryz.pinned (.plain (OpenSpec.ofChange objectBackSpec)) objectBackCard

/-- THE TIED CARD OF 'codicillaw07.ObjectFixed'. -/
def objectFixedCard : Claim7 := { stood := { row := objectFixedRow, standIns := [], harness := (true, "fd80869c8fac3c3139635b134a9a6a5d1449bf6f93f58626c915fd4731e7b9b1"), looks := true }, kinds := [], alts := [], laidByText := true, laidKinds := [.data, .data, .data, .data, .sentinel, .sentinel, .data, .data, .sentinel, .data, .pinned, .pinned], laidTests := true, laidLooks := .later }
def ObjectFixedCardSaid : Prop := Claim7.holds Tryz.pinned (.plain (OpenSpec.ofChange objectFixedSpec)) objectFixedCard

/-- THE SECOND FORM's CARD OF 'codicillaw07.ObjectTrees'. -/
def objectTreesUptoCard : Claim7 := { stood := { row := objectTreesUptoRow, standIns := [], harness := (true, "fd80869c8fac3c3139635b134a9a6a5d1449bf6f93f58626c915fd4731e7b9b1"), looks := true }, kinds := [], alts := [], laidByText := true, laidKinds := [.data, .data, .data, .data, .sentinel, .sentinel, .data, .data, .sentinel, .data, .pinned, .pinned], laidTests := true, laidLooks := .later }
def ObjectTreesUptoCardSaid : Prop := Claim7.holds Tryz.pinned (.plain (OpenSpec.upto objectTreesSpec)) objectTreesUptoCard

/-- THE SECOND FORM's CARD OF 'codicillaw07.ObjectTags'. -/
def objectTagsUptoCard : Claim7 := { stood := { row := objectTagsUptoRow, standIns := [], harness := (true, "fd80869c8fac3c3139635b134a9a6a5d1449bf6f93f58626c915fd4731e7b9b1"), looks := true }, kinds := [], alts := [], laidByText := true, laidKinds := [.data, .data, .data, .data, .sentinel, .sentinel, .data, .data, .sentinel, .data, .pinned, .pinned], laidTests := true, laidLooks := .later }
def ObjectTagsUptoCardSaid : Prop := Claim7.holds Tryz.pinned (.plain (OpenSpec.upto objectTagsSpec)) objectTagsUptoCard

/-- THE SECOND FORM's CARD OF 'codicillaw07.ObjectCommits'. -/
def objectCommitsUptoCard : Claim7 := { stood := { row := objectCommitsUptoRow, standIns := [], harness := (true, "fd80869c8fac3c3139635b134a9a6a5d1449bf6f93f58626c915fd4731e7b9b1"), looks := true }, kinds := [], alts := [], laidByText := true, laidKinds := [.data, .data, .data, .data, .sentinel, .sentinel, .data, .data, .sentinel, .data, .pinned, .pinned], laidTests := true, laidLooks := .later }
def ObjectCommitsUptoCardSaid : Prop := Claim7.holds Tryz.pinned (.plain (OpenSpec.upto objectCommitsSpec)) objectCommitsUptoCard

/-- THE SECOND FORM's CARD OF 'codicillaw07.ObjectMemory'. -/
def objectMemoryUptoCard : Claim7 := { stood := { row := objectMemoryUptoRow, standIns := [], harness := (true, "fd80869c8fac3c3139635b134a9a6a5d1449bf6f93f58626c915fd4731e7b9b1"), looks := true }, kinds := [], alts := [], laidByText := true, laidKinds := [.data, .data, .data, .data, .sentinel, .sentinel, .data, .data, .sentinel, .data, .pinned, .pinned], laidTests := true, laidLooks := .later }
def ObjectMemoryUptoCardSaid : Prop := Claim7.holds Tryz.pinned (.plain (OpenSpec.upto objectMemorySpec)) objectMemoryUptoCard

/-- THE SECOND FORM's CARD OF 'codicillaw07.ObjectChecks'. -/
def objectChecksUptoCard : Claim7 := { stood := { row := objectChecksUptoRow, standIns := [], harness := (true, "fd80869c8fac3c3139635b134a9a6a5d1449bf6f93f58626c915fd4731e7b9b1"), looks := true }, kinds := [], alts := [], laidByText := true, laidKinds := [.data, .data, .data, .data, .sentinel, .sentinel, .data, .data, .sentinel, .data, .pinned, .pinned], laidTests := true, laidLooks := .later }
def ObjectChecksUptoCardSaid : Prop := Claim7.holds Tryz.pinned (.plain (OpenSpec.upto objectChecksSpec)) objectChecksUptoCard

/-- THE SECOND FORM's CARD OF 'codicillaw07.ObjectBack'. -/
def objectBackUptoCard : Claim7 := { stood := { row := objectBackUptoRow, standIns := [], harness := (true, "fd80869c8fac3c3139635b134a9a6a5d1449bf6f93f58626c915fd4731e7b9b1"), looks := true }, kinds := [], alts := [], laidByText := true, laidKinds := [.data, .data, .data, .data, .sentinel, .sentinel, .data, .data, .sentinel, .data, .pinned, .pinned], laidTests := true, laidLooks := .later }
def ObjectBackUptoCardSaid : Prop := Claim7.holds Tryz.pinned (.plain (OpenSpec.upto objectBackSpec)) objectBackUptoCard

/-- THE SECOND FORM's CARD OF 'codicillaw07.ObjectFixed'. -/
def objectFixedUptoCard : Claim7 := { stood := { row := objectFixedUptoRow, standIns := [], harness := (true, "fd80869c8fac3c3139635b134a9a6a5d1449bf6f93f58626c915fd4731e7b9b1"), looks := true }, kinds := [], alts := [], laidByText := true, laidKinds := [.data, .data, .data, .data, .sentinel, .sentinel, .data, .data, .sentinel, .data, .pinned, .pinned], laidTests := true, laidLooks := .later }
def ObjectFixedUptoCardSaid : Prop := Claim7.holds Tryz.pinned (.plain (OpenSpec.upto objectFixedSpec)) objectFixedUptoCard
end Rows
end Go.Proofs.YthlnjgdoodjgoaaGreatDoor

/-
  DERIVED. GIVEN WITH THE SEED: THE CARDS: each row of YtokephobkllfgaaDoorRows.lean that lists a variable, with what it lists TIED to the program's text (the seventh form; the later family's looks); each row that meets fmt, with fmt's text TOLD by the authors' own Lean function (tested against real Go, not proved from fmt's source: count such statements apart). THE CARD IS WHAT COUNTS. Prove the row's statement (the work); the ties are given (YtokephobkllfgaaDoorTie.lean); close each card by the builder's one call (the guide's Derived/Test/ToyasCard.lean, 'card_holds'). Laid BY PROGRAM, IN A SANDBOX (cutbox-door.mjs). By AI agents, Wed Nov 11 2026. No macro, syntax, notation, axiom, sorry.
-/
import Derived.Test.YtokephobkllfgaaDoorRows
import GoSem.ClaimSeven
namespace Go.Proofs.YtokephobkllfgaaDoor
namespace Rows

/-- THE TIED CARD OF 'skywaylaw4.SnapshotSays'. -/
def snapshotSaysCard : Claim7 := { stood := { row := snapshotSaysRow, standIns := [], harness := (true, "7847264744662461d4da23647db5c0de9adaaaa3324032359160b83250f6e526"), looks := true }, kinds := [], alts := [], laidByText := true, laidKinds := [.data, .data, .data], laidTests := true, laidLooks := .later }
def SnapshotSaysCardSaid : Prop := Claim7.holds Tryd.pinned (.plain (OpenSpec.ofChange snapshotSaysSpec)) snapshotSaysCard

/-- THE TIED CARD OF 'skywaylaw4.RecordBytes'. -/
def recordBytesCard : Claim7 := { stood := { row := recordBytesRow, standIns := [], harness := (true, "7847264744662461d4da23647db5c0de9adaaaa3324032359160b83250f6e526"), looks := true }, kinds := [], alts := [], laidByText := true, laidKinds := [.data, .data, .data, .data, .pinned], laidTests := true, laidLooks := .later }
def RecordBytesCardSaid : Prop := Claim7.holds Tryd.pinned (.plain (OpenSpec.ofChange recordBytesSpec)) recordBytesCard

/-- THE TIED CARD OF 'skywaylaw4.ReplaySteps'. -/
def replayStepsCard : Claim7 := { stood := { row := replayStepsRow, standIns := [], harness := (true, "7847264744662461d4da23647db5c0de9adaaaa3324032359160b83250f6e526"), looks := true }, kinds := [], alts := [], laidByText := true, laidKinds := [.data, .data, .data, .data, .sentinel, .sentinel, .pinned], laidTests := true, laidLooks := .later }
def ReplayStepsCardSaid : Prop := Claim7.holds Tryd.pinned (.plain (OpenSpec.ofChange replayStepsSpec)) replayStepsCard

/-- THE SECOND FORM's CARD OF 'skywaylaw4.SnapshotSays'. -/
def snapshotSaysUptoCard : Claim7 := { stood := { row := snapshotSaysUptoRow, standIns := [], harness := (true, "7847264744662461d4da23647db5c0de9adaaaa3324032359160b83250f6e526"), looks := true }, kinds := [], alts := [], laidByText := true, laidKinds := [.data, .data, .data], laidTests := true, laidLooks := .later }
def SnapshotSaysUptoCardSaid : Prop := Claim7.holds Tryd.pinned (.plain (OpenSpec.upto snapshotSaysSpec)) snapshotSaysUptoCard

/-- THE SECOND FORM's CARD OF 'skywaylaw4.RecordBytes'. -/
def recordBytesUptoCard : Claim7 := { stood := { row := recordBytesUptoRow, standIns := [], harness := (true, "7847264744662461d4da23647db5c0de9adaaaa3324032359160b83250f6e526"), looks := true }, kinds := [], alts := [], laidByText := true, laidKinds := [.data, .data, .data, .data, .pinned], laidTests := true, laidLooks := .later }
def RecordBytesUptoCardSaid : Prop := Claim7.holds Tryd.pinned (.plain (OpenSpec.upto recordBytesSpec)) recordBytesUptoCard

/-- THE SECOND FORM's CARD OF 'skywaylaw4.ReplaySteps'. -/
def replayStepsUptoCard : Claim7 := { stood := { row := replayStepsUptoRow, standIns := [], harness := (true, "7847264744662461d4da23647db5c0de9adaaaa3324032359160b83250f6e526"), looks := true }, kinds := [], alts := [], laidByText := true, laidKinds := [.data, .data, .data, .data, .sentinel, .sentinel, .pinned], laidTests := true, laidLooks := .later }
def ReplayStepsUptoCardSaid : Prop := Claim7.holds Tryd.pinned (.plain (OpenSpec.upto replayStepsSpec)) replayStepsUptoCard
end Rows
end Go.Proofs.YtokephobkllfgaaDoor

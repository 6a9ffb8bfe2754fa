/-
  DERIVED. GIVEN WITH THE SEED: THE CARDS: each row of YtmedmajdoecjfaaDoorRows.lean that lists a variable, with what it lists TIED to the program's text (the seventh form; the later family's looks); each row that meets fmt, with fmt's text TOLD by the authors' own Lean function (tested against real Go, not proved from fmt's source: count such statements apart). THE CARD IS WHAT COUNTS. Prove the row's statement (the work); the ties are given (YtmedmajdoecjfaaDoorTie.lean); close each card by the builder's one call (the guide's Derived/Test/ToyasCard.lean, 'card_holds'). Laid BY PROGRAM, IN A SANDBOX (cutbox-door.mjs). By AI agents, Wed Nov 11 2026. No macro, syntax, notation, axiom, sorry.
-/
import Derived.Test.YtmedmajdoecjfaaDoorRows
import GoSem.ClaimSeven
namespace Go.Proofs.YtmedmajdoecjfaaDoor
namespace Rows

/-- THE TIED CARD OF 'quilterlaw13.QueueOthers'. -/
def queueOthersCard : Claim7 := { stood := { row := queueOthersRow, standIns := [], harness := (true, "3c6695a6ba06469a539ab21ceb4fa95b4147059ce9d79785b50f5d9686f95113"), looks := false }, kinds := [], alts := [], laidByText := true, laidKinds := [.data, .pinned], laidTests := true, laidLooks := .later }
def QueueOthersCardSaid : Prop := Claim7.holds Tryd.pinned (.plain (OpenSpec.ofChange queueOthersSpec)) queueOthersCard

/-- THE TIED CARD OF 'quilterlaw13.QueueRooms'. -/
def queueRoomsCard : Claim7 := { stood := { row := queueRoomsRow, standIns := [], harness := (true, "3c6695a6ba06469a539ab21ceb4fa95b4147059ce9d79785b50f5d9686f95113"), looks := false }, kinds := [], alts := [], laidByText := true, laidKinds := [.data, .pinned], laidTests := true, laidLooks := .later }
def QueueRoomsCardSaid : Prop := Claim7.holds Tryd.pinned (.plain (OpenSpec.ofChange queueRoomsSpec)) queueRoomsCard

/-- THE TIED CARD OF 'quilterlaw13.QueueConflicts'. -/
def queueConflictsCard : Claim7 := { stood := { row := queueConflictsRow, standIns := [], harness := (true, "3c6695a6ba06469a539ab21ceb4fa95b4147059ce9d79785b50f5d9686f95113"), looks := false }, kinds := [], alts := [], laidByText := true, laidKinds := [.data, .pinned], laidTests := true, laidLooks := .later }
def QueueConflictsCardSaid : Prop := Claim7.holds Tryd.pinned (.plain (OpenSpec.ofChange queueConflictsSpec)) queueConflictsCard

/-- THE TIED CARD OF 'quilterlaw13.QueueKeeps'. -/
def queueKeepsCard : Claim7 := { stood := { row := queueKeepsRow, standIns := [], harness := (true, "3c6695a6ba06469a539ab21ceb4fa95b4147059ce9d79785b50f5d9686f95113"), looks := false }, kinds := [], alts := [], laidByText := true, laidKinds := [.data, .pinned], laidTests := true, laidLooks := .later }
def QueueKeepsCardSaid : Prop := Claim7.holds Tryd.pinned (.plain (OpenSpec.ofChange queueKeepsSpec)) queueKeepsCard

/-- THE TIED CARD OF 'quilterlaw13.QueueOnce'. -/
def queueOnceCard : Claim7 := { stood := { row := queueOnceRow, standIns := [], harness := (true, "3c6695a6ba06469a539ab21ceb4fa95b4147059ce9d79785b50f5d9686f95113"), looks := false }, kinds := [], alts := [], laidByText := true, laidKinds := [.data, .pinned], laidTests := true, laidLooks := .later }
def QueueOnceCardSaid : Prop := Claim7.holds Tryd.pinned (.plain (OpenSpec.ofChange queueOnceSpec)) queueOnceCard

/-- THE TIED CARD OF 'quilterlaw13.QueueFirst'. -/
def queueFirstCard : Claim7 := { stood := { row := queueFirstRow, standIns := [], harness := (true, "3c6695a6ba06469a539ab21ceb4fa95b4147059ce9d79785b50f5d9686f95113"), looks := false }, kinds := [], alts := [], laidByText := true, laidKinds := [.data, .pinned], laidTests := true, laidLooks := .later }
def QueueFirstCardSaid : Prop := Claim7.holds Tryd.pinned (.plain (OpenSpec.ofChange queueFirstSpec)) queueFirstCard

/-- THE TIED CARD OF 'quilterlaw13.QueueSteps'. -/
def queueStepsCard : Claim7 := { stood := { row := queueStepsRow, standIns := [], harness := (true, "3c6695a6ba06469a539ab21ceb4fa95b4147059ce9d79785b50f5d9686f95113"), looks := false }, kinds := [], alts := [], laidByText := true, laidKinds := [.data, .pinned], laidTests := true, laidLooks := .later }
def QueueStepsCardSaid : Prop := Claim7.holds Tryd.pinned (.plain (OpenSpec.ofChange queueStepsSpec)) queueStepsCard

/-- THE SECOND FORM's CARD OF 'quilterlaw13.QueueOthers'. -/
def queueOthersUptoCard : Claim7 := { stood := { row := queueOthersUptoRow, standIns := [], harness := (true, "3c6695a6ba06469a539ab21ceb4fa95b4147059ce9d79785b50f5d9686f95113"), looks := false }, kinds := [], alts := [], laidByText := true, laidKinds := [.data, .pinned], laidTests := true, laidLooks := .later }
def QueueOthersUptoCardSaid : Prop := Claim7.holds Tryd.pinned (.plain (OpenSpec.upto queueOthersSpec)) queueOthersUptoCard

/-- THE SECOND FORM's CARD OF 'quilterlaw13.QueueRooms'. -/
def queueRoomsUptoCard : Claim7 := { stood := { row := queueRoomsUptoRow, standIns := [], harness := (true, "3c6695a6ba06469a539ab21ceb4fa95b4147059ce9d79785b50f5d9686f95113"), looks := false }, kinds := [], alts := [], laidByText := true, laidKinds := [.data, .pinned], laidTests := true, laidLooks := .later }
def QueueRoomsUptoCardSaid : Prop := Claim7.holds Tryd.pinned (.plain (OpenSpec.upto queueRoomsSpec)) queueRoomsUptoCard

/-- THE SECOND FORM's CARD OF 'quilterlaw13.QueueConflicts'. -/
def queueConflictsUptoCard : Claim7 := { stood := { row := queueConflictsUptoRow, standIns := [], harness := (true, "3c6695a6ba06469a539ab21ceb4fa95b4147059ce9d79785b50f5d9686f95113"), looks := false }, kinds := [], alts := [], laidByText := true, laidKinds := [.data, .pinned], laidTests := true, laidLooks := .later }
def QueueConflictsUptoCardSaid : Prop := Claim7.holds Tryd.pinned (.plain (OpenSpec.upto queueConflictsSpec)) queueConflictsUptoCard

/-- THE SECOND FORM's CARD OF 'quilterlaw13.QueueKeeps'. -/
def queueKeepsUptoCard : Claim7 := { stood := { row := queueKeepsUptoRow, standIns := [], harness := (true, "3c6695a6ba06469a539ab21ceb4fa95b4147059ce9d79785b50f5d9686f95113"), looks := false }, kinds := [], alts := [], laidByText := true, laidKinds := [.data, .pinned], laidTests := true, laidLooks := .later }
def QueueKeepsUptoCardSaid : Prop := Claim7.holds Tryd.pinned (.plain (OpenSpec.upto queueKeepsSpec)) queueKeepsUptoCard

/-- THE SECOND FORM's CARD OF 'quilterlaw13.QueueOnce'. -/
def queueOnceUptoCard : Claim7 := { stood := { row := queueOnceUptoRow, standIns := [], harness := (true, "3c6695a6ba06469a539ab21ceb4fa95b4147059ce9d79785b50f5d9686f95113"), looks := false }, kinds := [], alts := [], laidByText := true, laidKinds := [.data, .pinned], laidTests := true, laidLooks := .later }
def QueueOnceUptoCardSaid : Prop := Claim7.holds Tryd.pinned (.plain (OpenSpec.upto queueOnceSpec)) queueOnceUptoCard

/-- THE SECOND FORM's CARD OF 'quilterlaw13.QueueFirst'. -/
def queueFirstUptoCard : Claim7 := { stood := { row := queueFirstUptoRow, standIns := [], harness := (true, "3c6695a6ba06469a539ab21ceb4fa95b4147059ce9d79785b50f5d9686f95113"), looks := false }, kinds := [], alts := [], laidByText := true, laidKinds := [.data, .pinned], laidTests := true, laidLooks := .later }
def QueueFirstUptoCardSaid : Prop := Claim7.holds Tryd.pinned (.plain (OpenSpec.upto queueFirstSpec)) queueFirstUptoCard

/-- THE SECOND FORM's CARD OF 'quilterlaw13.QueueSteps'. -/
def queueStepsUptoCard : Claim7 := { stood := { row := queueStepsUptoRow, standIns := [], harness := (true, "3c6695a6ba06469a539ab21ceb4fa95b4147059ce9d79785b50f5d9686f95113"), looks := false }, kinds := [], alts := [], laidByText := true, laidKinds := [.data, .pinned], laidTests := true, laidLooks := .later }
def QueueStepsUptoCardSaid : Prop := Claim7.holds Tryd.pinned (.plain (OpenSpec.upto queueStepsSpec)) queueStepsUptoCard
end Rows
end Go.Proofs.YtmedmajdoecjfaaDoor

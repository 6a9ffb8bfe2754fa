/-
  DERIVED. GIVEN WITH THE SEED: THE CARDS: each row of YtkdcmdcdjnmkaaaDoorRows.lean that lists a variable, with what it lists TIED to the program's text (the seventh form; the later family's looks); each row that meets fmt, with fmt's text TOLD by the authors' own Lean function (tested against real Go, not proved from fmt's source: count such statements apart). THE CARD IS WHAT COUNTS. Prove the row's statement (the work); the ties are given (YtkdcmdcdjnmkaaaDoorTie.lean); close each card by the builder's one call (the guide's Derived/Test/ToyasCard.lean, 'card_holds'). Laid BY PROGRAM, IN A SANDBOX (cutbox-door.mjs). By AI agents, Wed Nov 11 2026. No macro, syntax, notation, axiom, sorry.
-/
import Derived.Test.YtkdcmdcdjnmkaaaDoorRows
import GoSem.ClaimSeven
namespace Go.Proofs.YtkdcmdcdjnmkaaaDoor
namespace Rows

/-- THE TIED CARD OF 'quilterlaw03.HistoryLast'. -/
def historyLastCard : Claim7 := { stood := { row := historyLastRow, standIns := [], harness := (true, "0f416e8ac2d28f8dd6261e70c8aa02023739d1e717875e41f650251382fab85d"), looks := false }, kinds := [], alts := [], laidByText := true, laidKinds := [.data, .pinned], laidTests := true, laidLooks := .later }
def HistoryLastCardSaid : Prop := Claim7.holds Tryd.pinned (.plain (OpenSpec.ofChange historyLastSpec)) historyLastCard

/-- THE TIED CARD OF 'quilterlaw03.HistoryStays'. -/
def historyStaysCard : Claim7 := { stood := { row := historyStaysRow, standIns := [], harness := (true, "0f416e8ac2d28f8dd6261e70c8aa02023739d1e717875e41f650251382fab85d"), looks := false }, kinds := [], alts := [], laidByText := true, laidKinds := [.data, .pinned], laidTests := true, laidLooks := .later }
def HistoryStaysCardSaid : Prop := Claim7.holds Tryd.pinned (.plain (OpenSpec.ofChange historyStaysSpec)) historyStaysCard

/-- THE TIED CARD OF 'quilterlaw03.HistoryAgain'. -/
def historyAgainCard : Claim7 := { stood := { row := historyAgainRow, standIns := [], harness := (true, "0f416e8ac2d28f8dd6261e70c8aa02023739d1e717875e41f650251382fab85d"), looks := false }, kinds := [], alts := [], laidByText := true, laidKinds := [.data, .pinned], laidTests := true, laidLooks := .later }
def HistoryAgainCardSaid : Prop := Claim7.holds Tryd.pinned (.plain (OpenSpec.ofChange historyAgainSpec)) historyAgainCard

/-- THE TIED CARD OF 'quilterlaw03.HistoryKeeps'. -/
def historyKeepsCard : Claim7 := { stood := { row := historyKeepsRow, standIns := [], harness := (true, "0f416e8ac2d28f8dd6261e70c8aa02023739d1e717875e41f650251382fab85d"), looks := false }, kinds := [], alts := [], laidByText := true, laidKinds := [.data, .pinned], laidTests := true, laidLooks := .later }
def HistoryKeepsCardSaid : Prop := Claim7.holds Tryd.pinned (.plain (OpenSpec.ofChange historyKeepsSpec)) historyKeepsCard

/-- THE TIED CARD OF 'quilterlaw03.HistoryCopies'. -/
def historyCopiesCard : Claim7 := { stood := { row := historyCopiesRow, standIns := [], harness := (true, "0f416e8ac2d28f8dd6261e70c8aa02023739d1e717875e41f650251382fab85d"), looks := false }, kinds := [], alts := [], laidByText := true, laidKinds := [.data, .pinned], laidTests := true, laidLooks := .later }
def HistoryCopiesCardSaid : Prop := Claim7.holds Tryd.pinned (.plain (OpenSpec.ofChange historyCopiesSpec)) historyCopiesCard

/-- THE TIED CARD OF 'quilterlaw03.HistorySteps'. -/
def historyStepsCard : Claim7 := { stood := { row := historyStepsRow, standIns := [], harness := (true, "0f416e8ac2d28f8dd6261e70c8aa02023739d1e717875e41f650251382fab85d"), looks := false }, kinds := [], alts := [], laidByText := true, laidKinds := [.data, .pinned], laidTests := true, laidLooks := .later }
def HistoryStepsCardSaid : Prop := Claim7.holds Tryd.pinned (.plain (OpenSpec.ofChange historyStepsSpec)) historyStepsCard

/-- THE SECOND FORM's CARD OF 'quilterlaw03.HistoryLast'. -/
def historyLastUptoCard : Claim7 := { stood := { row := historyLastUptoRow, standIns := [], harness := (true, "0f416e8ac2d28f8dd6261e70c8aa02023739d1e717875e41f650251382fab85d"), looks := false }, kinds := [], alts := [], laidByText := true, laidKinds := [.data, .pinned], laidTests := true, laidLooks := .later }
def HistoryLastUptoCardSaid : Prop := Claim7.holds Tryd.pinned (.plain (OpenSpec.upto historyLastSpec)) historyLastUptoCard

/-- THE SECOND FORM's CARD OF 'quilterlaw03.HistoryStays'. -/
def historyStaysUptoCard : Claim7 := { stood := { row := historyStaysUptoRow, standIns := [], harness := (true, "0f416e8ac2d28f8dd6261e70c8aa02023739d1e717875e41f650251382fab85d"), looks := false }, kinds := [], alts := [], laidByText := true, laidKinds := [.data, .pinned], laidTests := true, laidLooks := .later }
def HistoryStaysUptoCardSaid : Prop := Claim7.holds Tryd.pinned (.plain (OpenSpec.upto historyStaysSpec)) historyStaysUptoCard

/-- THE SECOND FORM's CARD OF 'quilterlaw03.HistoryAgain'. -/
def historyAgainUptoCard : Claim7 := { stood := { row := historyAgainUptoRow, standIns := [], harness := (true, "0f416e8ac2d28f8dd6261e70c8aa02023739d1e717875e41f650251382fab85d"), looks := false }, kinds := [], alts := [], laidByText := true, laidKinds := [.data, .pinned], laidTests := true, laidLooks := .later }
def HistoryAgainUptoCardSaid : Prop := Claim7.holds Tryd.pinned (.plain (OpenSpec.upto historyAgainSpec)) historyAgainUptoCard

/-- THE SECOND FORM's CARD OF 'quilterlaw03.HistoryKeeps'. -/
def historyKeepsUptoCard : Claim7 := { stood := { row := historyKeepsUptoRow, standIns := [], harness := (true, "0f416e8ac2d28f8dd6261e70c8aa02023739d1e717875e41f650251382fab85d"), looks := false }, kinds := [], alts := [], laidByText := true, laidKinds := [.data, .pinned], laidTests := true, laidLooks := .later }
def HistoryKeepsUptoCardSaid : Prop := Claim7.holds Tryd.pinned (.plain (OpenSpec.upto historyKeepsSpec)) historyKeepsUptoCard

/-- THE SECOND FORM's CARD OF 'quilterlaw03.HistoryCopies'. -/
def historyCopiesUptoCard : Claim7 := { stood := { row := historyCopiesUptoRow, standIns := [], harness := (true, "0f416e8ac2d28f8dd6261e70c8aa02023739d1e717875e41f650251382fab85d"), looks := false }, kinds := [], alts := [], laidByText := true, laidKinds := [.data, .pinned], laidTests := true, laidLooks := .later }
def HistoryCopiesUptoCardSaid : Prop := Claim7.holds Tryd.pinned (.plain (OpenSpec.upto historyCopiesSpec)) historyCopiesUptoCard

/-- THE SECOND FORM's CARD OF 'quilterlaw03.HistorySteps'. -/
def historyStepsUptoCard : Claim7 := { stood := { row := historyStepsUptoRow, standIns := [], harness := (true, "0f416e8ac2d28f8dd6261e70c8aa02023739d1e717875e41f650251382fab85d"), looks := false }, kinds := [], alts := [], laidByText := true, laidKinds := [.data, .pinned], laidTests := true, laidLooks := .later }
def HistoryStepsUptoCardSaid : Prop := Claim7.holds Tryd.pinned (.plain (OpenSpec.upto historyStepsSpec)) historyStepsUptoCard
end Rows
end Go.Proofs.YtkdcmdcdjnmkaaaDoor

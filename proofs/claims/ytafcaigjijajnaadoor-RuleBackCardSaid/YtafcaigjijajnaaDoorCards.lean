/-
  DERIVED. GIVEN WITH THE SEED: THE CARDS: each row of YtafcaigjijajnaaDoorRows.lean that lists a variable, with what it lists TIED to the program's text (the seventh form; the later family's looks); each row that meets fmt, with fmt's text TOLD by the authors' own Lean function (tested against real Go, not proved from fmt's source: count such statements apart). THE CARD IS WHAT COUNTS. Prove the row's statement (the work); the ties are given (YtafcaigjijajnaaDoorTie.lean); close each card by the builder's one call (the guide's Derived/Test/ToyasCard.lean, 'card_holds'). Laid BY PROGRAM, IN A SANDBOX (cutbox-door.mjs). By AI agents, Wed Nov 11 2026. No macro, syntax, notation, axiom, sorry.
-/
import Derived.Test.YtafcaigjijajnaaDoorRows
import GoSem.ClaimSeven
namespace Go.Proofs.YtafcaigjijajnaaDoor
namespace Rows

/-- THE TIED CARD OF 'quilterlaw11.RuleParses'. -/
def ruleParsesCard : Claim7 := { stood := { row := ruleParsesRow, standIns := [], harness := (true, "2c48dfbbfaaab42c57fcee7358216843d5a576efcc92178f6e4508da0b5242d3"), looks := true }, kinds := [], alts := [], laidByText := true, laidKinds := [.data, .data, .data, .data, .sentinel, .sentinel, .pinned], laidTests := true, laidLooks := .later }
def RuleParsesCardSaid : Prop := Claim7.holds Tryd.pinned (.plain (OpenSpec.ofChange ruleParsesSpec)) ruleParsesCard

/-- THE TIED CARD OF 'quilterlaw11.RulePrints'. -/
def rulePrintsCard : Claim7 := { stood := { row := rulePrintsRow, standIns := [], harness := (true, "2c48dfbbfaaab42c57fcee7358216843d5a576efcc92178f6e4508da0b5242d3"), looks := true }, kinds := [], alts := [], laidByText := true, laidKinds := [.data, .data, .data, .data, .sentinel, .sentinel, .pinned], laidTests := true, laidLooks := .later }
def RulePrintsCardSaid : Prop := Claim7.holds Tryd.pinned (.plain (OpenSpec.ofChange rulePrintsSpec)) rulePrintsCard

/-- THE TIED CARD OF 'quilterlaw11.RuleBack'. -/
def ruleBackCard : Claim7 := { stood := { row := ruleBackRow, standIns := [], harness := (true, "2c48dfbbfaaab42c57fcee7358216843d5a576efcc92178f6e4508da0b5242d3"), looks := true }, kinds := [], alts := [], laidByText := true, laidKinds := [.data, .data, .data, .data, .sentinel, .sentinel, .pinned], laidTests := true, laidLooks := .later }
def RuleBackCardSaid : Prop := Claim7.holds Tryd.pinned (.plain (OpenSpec.ofChange ruleBackSpec)) ruleBackCard

/-- THE TIED CARD OF 'quilterlaw11.RuleQuotes'. -/
def ruleQuotesCard : Claim7 := { stood := { row := ruleQuotesRow, standIns := [], harness := (true, "2c48dfbbfaaab42c57fcee7358216843d5a576efcc92178f6e4508da0b5242d3"), looks := true }, kinds := [], alts := [], laidByText := true, laidKinds := [.data, .data, .data, .data, .sentinel, .sentinel, .pinned], laidTests := true, laidLooks := .later }
def RuleQuotesCardSaid : Prop := Claim7.holds Tryd.pinned (.plain (OpenSpec.ofChange ruleQuotesSpec)) ruleQuotesCard

/-- THE TIED CARD OF 'quilterlaw11.RuleLines'. -/
def ruleLinesCard : Claim7 := { stood := { row := ruleLinesRow, standIns := [], harness := (true, "2c48dfbbfaaab42c57fcee7358216843d5a576efcc92178f6e4508da0b5242d3"), looks := true }, kinds := [], alts := [], laidByText := true, laidKinds := [.data, .data, .data, .data, .sentinel, .sentinel, .pinned], laidTests := true, laidLooks := .later }
def RuleLinesCardSaid : Prop := Claim7.holds Tryd.pinned (.plain (OpenSpec.ofChange ruleLinesSpec)) ruleLinesCard

/-- THE TIED CARD OF 'quilterlaw11.RuleTokens'. -/
def ruleTokensCard : Claim7 := { stood := { row := ruleTokensRow, standIns := [], harness := (true, "2c48dfbbfaaab42c57fcee7358216843d5a576efcc92178f6e4508da0b5242d3"), looks := true }, kinds := [], alts := [], laidByText := true, laidKinds := [.data, .data, .data, .data, .sentinel, .sentinel, .pinned], laidTests := true, laidLooks := .later }
def RuleTokensCardSaid : Prop := Claim7.holds Tryd.pinned (.plain (OpenSpec.ofChange ruleTokensSpec)) ruleTokensCard

/-- THE TIED CARD OF 'quilterlaw11.RuleMay'. -/
def ruleMayCard : Claim7 := { stood := { row := ruleMayRow, standIns := [], harness := (true, "2c48dfbbfaaab42c57fcee7358216843d5a576efcc92178f6e4508da0b5242d3"), looks := true }, kinds := [], alts := [], laidByText := true, laidKinds := [.data, .data, .data, .data, .sentinel, .sentinel, .pinned], laidTests := true, laidLooks := .later }
def RuleMayCardSaid : Prop := Claim7.holds Tryd.pinned (.plain (OpenSpec.ofChange ruleMaySpec)) ruleMayCard

/-- THE TIED CARD OF 'quilterlaw11.RuleWrong'. -/
def ruleWrongCard : Claim7 := { stood := { row := ruleWrongRow, standIns := [], harness := (true, "2c48dfbbfaaab42c57fcee7358216843d5a576efcc92178f6e4508da0b5242d3"), looks := true }, kinds := [], alts := [], laidByText := true, laidKinds := [.data, .data, .data, .data, .sentinel, .sentinel, .pinned], laidTests := true, laidLooks := .later }
def RuleWrongCardSaid : Prop := Claim7.holds Tryd.pinned (.plain (OpenSpec.ofChange ruleWrongSpec)) ruleWrongCard

/-- THE SECOND FORM's CARD OF 'quilterlaw11.RuleParses'. -/
def ruleParsesUptoCard : Claim7 := { stood := { row := ruleParsesUptoRow, standIns := [], harness := (true, "2c48dfbbfaaab42c57fcee7358216843d5a576efcc92178f6e4508da0b5242d3"), looks := true }, kinds := [], alts := [], laidByText := true, laidKinds := [.data, .data, .data, .data, .sentinel, .sentinel, .pinned], laidTests := true, laidLooks := .later }
def RuleParsesUptoCardSaid : Prop := Claim7.holds Tryd.pinned (.plain (OpenSpec.upto ruleParsesSpec)) ruleParsesUptoCard

/-- THE SECOND FORM's CARD OF 'quilterlaw11.RulePrints'. -/
def rulePrintsUptoCard : Claim7 := { stood := { row := rulePrintsUptoRow, standIns := [], harness := (true, "2c48dfbbfaaab42c57fcee7358216843d5a576efcc92178f6e4508da0b5242d3"), looks := true }, kinds := [], alts := [], laidByText := true, laidKinds := [.data, .data, .data, .data, .sentinel, .sentinel, .pinned], laidTests := true, laidLooks := .later }
def RulePrintsUptoCardSaid : Prop := Claim7.holds Tryd.pinned (.plain (OpenSpec.upto rulePrintsSpec)) rulePrintsUptoCard

/-- THE SECOND FORM's CARD OF 'quilterlaw11.RuleBack'. -/
def ruleBackUptoCard : Claim7 := { stood := { row := ruleBackUptoRow, standIns := [], harness := (true, "2c48dfbbfaaab42c57fcee7358216843d5a576efcc92178f6e4508da0b5242d3"), looks := true }, kinds := [], alts := [], laidByText := true, laidKinds := [.data, .data, .data, .data, .sentinel, .sentinel, .pinned], laidTests := true, laidLooks := .later }
def RuleBackUptoCardSaid : Prop := Claim7.holds Tryd.pinned (.plain (OpenSpec.upto ruleBackSpec)) ruleBackUptoCard

/-- THE SECOND FORM's CARD OF 'quilterlaw11.RuleQuotes'. -/
def ruleQuotesUptoCard : Claim7 := { stood := { row := ruleQuotesUptoRow, standIns := [], harness := (true, "2c48dfbbfaaab42c57fcee7358216843d5a576efcc92178f6e4508da0b5242d3"), looks := true }, kinds := [], alts := [], laidByText := true, laidKinds := [.data, .data, .data, .data, .sentinel, .sentinel, .pinned], laidTests := true, laidLooks := .later }
def RuleQuotesUptoCardSaid : Prop := Claim7.holds Tryd.pinned (.plain (OpenSpec.upto ruleQuotesSpec)) ruleQuotesUptoCard

/-- THE SECOND FORM's CARD OF 'quilterlaw11.RuleLines'. -/
def ruleLinesUptoCard : Claim7 := { stood := { row := ruleLinesUptoRow, standIns := [], harness := (true, "2c48dfbbfaaab42c57fcee7358216843d5a576efcc92178f6e4508da0b5242d3"), looks := true }, kinds := [], alts := [], laidByText := true, laidKinds := [.data, .data, .data, .data, .sentinel, .sentinel, .pinned], laidTests := true, laidLooks := .later }
def RuleLinesUptoCardSaid : Prop := Claim7.holds Tryd.pinned (.plain (OpenSpec.upto ruleLinesSpec)) ruleLinesUptoCard

/-- THE SECOND FORM's CARD OF 'quilterlaw11.RuleTokens'. -/
def ruleTokensUptoCard : Claim7 := { stood := { row := ruleTokensUptoRow, standIns := [], harness := (true, "2c48dfbbfaaab42c57fcee7358216843d5a576efcc92178f6e4508da0b5242d3"), looks := true }, kinds := [], alts := [], laidByText := true, laidKinds := [.data, .data, .data, .data, .sentinel, .sentinel, .pinned], laidTests := true, laidLooks := .later }
def RuleTokensUptoCardSaid : Prop := Claim7.holds Tryd.pinned (.plain (OpenSpec.upto ruleTokensSpec)) ruleTokensUptoCard

/-- THE SECOND FORM's CARD OF 'quilterlaw11.RuleMay'. -/
def ruleMayUptoCard : Claim7 := { stood := { row := ruleMayUptoRow, standIns := [], harness := (true, "2c48dfbbfaaab42c57fcee7358216843d5a576efcc92178f6e4508da0b5242d3"), looks := true }, kinds := [], alts := [], laidByText := true, laidKinds := [.data, .data, .data, .data, .sentinel, .sentinel, .pinned], laidTests := true, laidLooks := .later }
def RuleMayUptoCardSaid : Prop := Claim7.holds Tryd.pinned (.plain (OpenSpec.upto ruleMaySpec)) ruleMayUptoCard

/-- THE SECOND FORM's CARD OF 'quilterlaw11.RuleWrong'. -/
def ruleWrongUptoCard : Claim7 := { stood := { row := ruleWrongUptoRow, standIns := [], harness := (true, "2c48dfbbfaaab42c57fcee7358216843d5a576efcc92178f6e4508da0b5242d3"), looks := true }, kinds := [], alts := [], laidByText := true, laidKinds := [.data, .data, .data, .data, .sentinel, .sentinel, .pinned], laidTests := true, laidLooks := .later }
def RuleWrongUptoCardSaid : Prop := Claim7.holds Tryd.pinned (.plain (OpenSpec.upto ruleWrongSpec)) ruleWrongUptoCard
end Rows
end Go.Proofs.YtafcaigjijajnaaDoor

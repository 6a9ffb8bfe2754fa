/-
  NARROWER THAN 'FOR EVERY INPUT', by the rows' own cells (each row's printed sentence says how): HistoryLast: laid · HistoryStays: laid · HistoryAgain: laid · HistoryKeeps: laid · HistoryCopies: laid · HistorySteps: laid.
  DERIVED. THE GIVEN ROWS OF THIS SEAT. 6 by the template 'for every input the law returns true; each argument reads behind the call as it read before'; 0 by the template 'total and deterministic' (their statements: YtkdcmdcdjnmkaaaDoorTotals.lean).
  GIVEN WITH THE SEED: the statements are not yours to turn. If you find one false, say at which input.
  Laid BY PROGRAM, IN A SANDBOX (cutbox-rows.mjs): the forced cells as the released guide's own fill.sh prints them over the translation 6762bd006b8ca163… (all of the seat's roots in one cut). By AI agents, Wed Nov 11 2026. No macro, syntax, notation, axiom, sorry.
-/
import Derived.Test.YtkdcmdcdjnmkaaaDoorChecked
import GoSem.PinnedTables
import GoSem.Claim
import GoSem.ClaimJoined
import GoSem.ClaimMapViews
import Derived.JoinedTies
import Derived.KernelRfl
namespace Go.Proofs.YtkdcmdcdjnmkaaaDoor
/- THE CELL 'sum', in the pinned program and in every row, IS THE sha256 OF THE DUMP (.gsa) THAT YtkdcmdcdjnmkaaaDoorProg.lean LOADS. Nothing in Lean hashes anything: it is a label: what it is worth is what the hold of that sum in a sandbox is worth. -/
noncomputable def Tryd.pinned : Pinned := { name := "ytkdcmdcdjnmkaaadoor", sum := "6762bd006b8ca1634681d6215060b24c47ac173220b043e4f08c57019457b914", checked := Tryd.checked }
namespace Rows
def none {H : Type} : Left H := { results := [], args := [] }

/- WHAT THE LISTED PACKAGE-LEVEL VARIABLES READ AS WHEN THE CALL BEGINS. Each datum BY PROGRAM (the guide's laid-datum.mjs) off the statement by which the dump's own 'gosem.cut.vars' lays the variable. In a bare row this is a premise. The card (YtkdcmdcdjnmkaaaDoorCards.lean) ties it to the program's text. -/
def laid_unicode_utf8_acceptRanges {H : Type} : DataW H := .agg [.agg [.lit (.int .u8 128), .lit (.int .u8 191)], .agg [.lit (.int .u8 160), .lit (.int .u8 191)], .agg [.lit (.int .u8 128), .lit (.int .u8 159)], .agg [.lit (.int .u8 144), .lit (.int .u8 191)], .agg [.lit (.int .u8 128), .lit (.int .u8 143)], .agg [.lit (.int .u8 0), .lit (.int .u8 0)], .agg [.lit (.int .u8 0), .lit (.int .u8 0)], .agg [.lit (.int .u8 0), .lit (.int .u8 0)], .agg [.lit (.int .u8 0), .lit (.int .u8 0)], .agg [.lit (.int .u8 0), .lit (.int .u8 0)], .agg [.lit (.int .u8 0), .lit (.int .u8 0)], .agg [.lit (.int .u8 0), .lit (.int .u8 0)], .agg [.lit (.int .u8 0), .lit (.int .u8 0)], .agg [.lit (.int .u8 0), .lit (.int .u8 0)], .agg [.lit (.int .u8 0), .lit (.int .u8 0)], .agg [.lit (.int .u8 0), .lit (.int .u8 0)]]
/-- One of Go's own tables, pinned by name: the form's constant. -/
def laid_unicode_utf8_first : DataW Unit := Go.Pinned.utf8First

/-- 'quilterlaw03.HistoryLast': WHATEVER THE INPUT: true; the input reads as it did. -/
def historyLastSpec : ChangeSpec := { name := "historyLast", fn := fun _ => fun
  | [d1, d2, d3] => { results := [.lit (.bool true)], args := [d1, d2, d3] }
  | _ => none }
def historyLastRow : OpenClaim := { program := "ytkdcmdcdjnmkaaadoor", sum := "6762bd006b8ca1634681d6215060b24c47ac173220b043e4f08c57019457b914", func := "quilter/quilterlaw03.HistoryLast", spec := "historyLast", inPlace := ["internal/bytealg.IndexByteString", "internal/bytealg.IndexString", "slices.overlaps[quilter/api.File]"], unfollowed := true, recurses := true, named := ["unicode/utf8.first", "unicode/utf8.acceptRanges", "internal/bytealg.MaxLen"], apart := false, laid := [("unicode/utf8.acceptRanges", laid_unicode_utf8_acceptRanges), ("unicode/utf8.first", laid_unicode_utf8_first)] }
def HistoryLastSaid : Prop := historyLastRow.holds Tryd.pinned (OpenSpec.ofChange historyLastSpec)

/-- ITS FALSE NEIGHBOUR: 'it returns false'. Refute it at one input. -/
def historyLastWrong : ChangeSpec := { name := "historyLast", fn := fun _ => fun
  | [d1, d2, d3] => { results := [.lit (.bool false)], args := [d1, d2, d3] }
  | _ => none }
def HistoryLastWrongFalsely : Prop := historyLastRow.holds Tryd.pinned (OpenSpec.ofChange historyLastWrong)

/-- 'quilterlaw03.HistoryStays': WHATEVER THE INPUT: true; the input reads as it did. -/
def historyStaysSpec : ChangeSpec := { name := "historyStays", fn := fun _ => fun
  | [d1, d2] => { results := [.lit (.bool true)], args := [d1, d2] }
  | _ => none }
def historyStaysRow : OpenClaim := { program := "ytkdcmdcdjnmkaaadoor", sum := "6762bd006b8ca1634681d6215060b24c47ac173220b043e4f08c57019457b914", func := "quilter/quilterlaw03.HistoryStays", spec := "historyStays", inPlace := ["internal/bytealg.IndexByteString", "internal/bytealg.IndexString", "slices.overlaps[quilter/api.File]"], unfollowed := true, recurses := true, named := ["unicode/utf8.first", "unicode/utf8.acceptRanges", "internal/bytealg.MaxLen"], apart := false, laid := [("unicode/utf8.acceptRanges", laid_unicode_utf8_acceptRanges), ("unicode/utf8.first", laid_unicode_utf8_first)] }
def HistoryStaysSaid : Prop := historyStaysRow.holds Tryd.pinned (OpenSpec.ofChange historyStaysSpec)

/-- ITS FALSE NEIGHBOUR: 'it returns false'. Refute it at one input. -/
def historyStaysWrong : ChangeSpec := { name := "historyStays", fn := fun _ => fun
  | [d1, d2] => { results := [.lit (.bool false)], args := [d1, d2] }
  | _ => none }
def HistoryStaysWrongFalsely : Prop := historyStaysRow.holds Tryd.pinned (OpenSpec.ofChange historyStaysWrong)

/-- 'quilterlaw03.HistoryAgain': WHATEVER THE INPUT: true; the input reads as it did. -/
def historyAgainSpec : ChangeSpec := { name := "historyAgain", fn := fun _ => fun
  | [d1, d2] => { results := [.lit (.bool true)], args := [d1, d2] }
  | _ => none }
def historyAgainRow : OpenClaim := { program := "ytkdcmdcdjnmkaaadoor", sum := "6762bd006b8ca1634681d6215060b24c47ac173220b043e4f08c57019457b914", func := "quilter/quilterlaw03.HistoryAgain", spec := "historyAgain", inPlace := ["internal/bytealg.IndexByteString", "internal/bytealg.IndexString", "slices.overlaps[quilter/api.File]"], unfollowed := true, recurses := true, named := ["unicode/utf8.first", "unicode/utf8.acceptRanges", "internal/bytealg.MaxLen"], apart := false, laid := [("unicode/utf8.acceptRanges", laid_unicode_utf8_acceptRanges), ("unicode/utf8.first", laid_unicode_utf8_first)] }
def HistoryAgainSaid : Prop := historyAgainRow.holds Tryd.pinned (OpenSpec.ofChange historyAgainSpec)

/-- ITS FALSE NEIGHBOUR: 'it returns false'. Refute it at one input. -/
def historyAgainWrong : ChangeSpec := { name := "historyAgain", fn := fun _ => fun
  | [d1, d2] => { results := [.lit (.bool false)], args := [d1, d2] }
  | _ => none }
def HistoryAgainWrongFalsely : Prop := historyAgainRow.holds Tryd.pinned (OpenSpec.ofChange historyAgainWrong)

/-- 'quilterlaw03.HistoryKeeps': WHATEVER THE INPUT: true; the input reads as it did. -/
def historyKeepsSpec : ChangeSpec := { name := "historyKeeps", fn := fun _ => fun
  | [d1, d2] => { results := [.lit (.bool true)], args := [d1, d2] }
  | _ => none }
def historyKeepsRow : OpenClaim := { program := "ytkdcmdcdjnmkaaadoor", sum := "6762bd006b8ca1634681d6215060b24c47ac173220b043e4f08c57019457b914", func := "quilter/quilterlaw03.HistoryKeeps", spec := "historyKeeps", inPlace := ["internal/bytealg.IndexByteString", "internal/bytealg.IndexString", "slices.overlaps[quilter/api.File]"], unfollowed := true, recurses := true, named := ["unicode/utf8.first", "unicode/utf8.acceptRanges", "internal/bytealg.MaxLen"], apart := false, laid := [("unicode/utf8.acceptRanges", laid_unicode_utf8_acceptRanges), ("unicode/utf8.first", laid_unicode_utf8_first)] }
def HistoryKeepsSaid : Prop := historyKeepsRow.holds Tryd.pinned (OpenSpec.ofChange historyKeepsSpec)

/-- ITS FALSE NEIGHBOUR: 'it returns false'. Refute it at one input. -/
def historyKeepsWrong : ChangeSpec := { name := "historyKeeps", fn := fun _ => fun
  | [d1, d2] => { results := [.lit (.bool false)], args := [d1, d2] }
  | _ => none }
def HistoryKeepsWrongFalsely : Prop := historyKeepsRow.holds Tryd.pinned (OpenSpec.ofChange historyKeepsWrong)

/-- 'quilterlaw03.HistoryCopies': WHATEVER THE INPUT: true; the input reads as it did. -/
def historyCopiesSpec : ChangeSpec := { name := "historyCopies", fn := fun _ => fun
  | [d1, d2, d3, d4] => { results := [.lit (.bool true)], args := [d1, d2, d3, d4] }
  | _ => none }
def historyCopiesRow : OpenClaim := { program := "ytkdcmdcdjnmkaaadoor", sum := "6762bd006b8ca1634681d6215060b24c47ac173220b043e4f08c57019457b914", func := "quilter/quilterlaw03.HistoryCopies", spec := "historyCopies", inPlace := ["internal/bytealg.IndexByteString", "internal/bytealg.IndexString", "slices.overlaps[quilter/api.File]"], unfollowed := true, recurses := true, named := ["unicode/utf8.first", "unicode/utf8.acceptRanges", "internal/bytealg.MaxLen"], apart := false, laid := [("unicode/utf8.acceptRanges", laid_unicode_utf8_acceptRanges), ("unicode/utf8.first", laid_unicode_utf8_first)] }
def HistoryCopiesSaid : Prop := historyCopiesRow.holds Tryd.pinned (OpenSpec.ofChange historyCopiesSpec)

/-- ITS FALSE NEIGHBOUR: 'it returns false'. Refute it at one input. -/
def historyCopiesWrong : ChangeSpec := { name := "historyCopies", fn := fun _ => fun
  | [d1, d2, d3, d4] => { results := [.lit (.bool false)], args := [d1, d2, d3, d4] }
  | _ => none }
def HistoryCopiesWrongFalsely : Prop := historyCopiesRow.holds Tryd.pinned (OpenSpec.ofChange historyCopiesWrong)

/-- 'quilterlaw03.HistorySteps': WHATEVER THE INPUT: true; the input reads as it did. -/
def historyStepsSpec : ChangeSpec := { name := "historySteps", fn := fun _ => fun
  | [d1, d2, d3, d4] => { results := [.lit (.bool true)], args := [d1, d2, d3, d4] }
  | _ => none }
def historyStepsRow : OpenClaim := { program := "ytkdcmdcdjnmkaaadoor", sum := "6762bd006b8ca1634681d6215060b24c47ac173220b043e4f08c57019457b914", func := "quilter/quilterlaw03.HistorySteps", spec := "historySteps", inPlace := ["internal/bytealg.IndexByteString", "internal/bytealg.IndexString", "slices.overlaps[quilter/api.File]"], unfollowed := true, recurses := true, named := ["unicode/utf8.first", "unicode/utf8.acceptRanges", "internal/bytealg.MaxLen"], apart := false, laid := [("unicode/utf8.acceptRanges", laid_unicode_utf8_acceptRanges), ("unicode/utf8.first", laid_unicode_utf8_first)] }
def HistoryStepsSaid : Prop := historyStepsRow.holds Tryd.pinned (OpenSpec.ofChange historyStepsSpec)

/-- ITS FALSE NEIGHBOUR: 'it returns false'. Refute it at one input. -/
def historyStepsWrong : ChangeSpec := { name := "historySteps", fn := fun _ => fun
  | [d1, d2, d3, d4] => { results := [.lit (.bool false)], args := [d1, d2, d3, d4] }
  | _ => none }
def HistoryStepsWrongFalsely : Prop := historyStepsRow.holds Tryd.pinned (OpenSpec.ofChange historyStepsWrong)

/- THE SECOND FORM. 'bulk': how many values and letters a reading holds, each counted each time it is reached (what is shared counts as often as it is met; a slice's spare places count too). A statement '..UptoSaid' is the law's where the arguments, and the package variables that the reading takes, are together of bulk at most 1048576: NARROWER than '..Said'. Prove '..Said' where nothing that the law and all that it calls make is longer than what came in: it says more and counts as full. Else prove '..UptoSaid'. A law counts once. -/
mutual
def uptoBulk {H : Type} : DataW H → Nat
  | .lit (.string bytes) => bytes.length + 1
  | .lit _ => 1
  | .nil => 1
  | .ptr d => uptoBulk d + 1
  | .slice elems spare => uptoBulkAll elems + uptoBulkAll spare + 1
  | .agg parts => uptoBulkAll parts + 1
  | .iface _ d => uptoBulk d + 1
  | .map entries => uptoBulkEntries entries + 1
  | .held _ => 1
def uptoBulkAll {H : Type} : List (DataW H) → Nat
  | [] => 0
  | d :: r => uptoBulk d + uptoBulkAll r
def uptoBulkEntries {H : Type} : List (Lit × DataW H) → Nat
  | [] => 0
  | x :: r => uptoBulkEntry x + uptoBulkEntries r
def uptoBulkEntry {H : Type} : Lit × DataW H → Nat
  | (.string bytes, d) => bytes.length + uptoBulk d + 1
  | (_, d) => uptoBulk d + 1
 end
def uptoSmall : (H : Type) → List (DataW H) → Bool := fun _ ds => decide (uptoBulkAll ds ≤ 1048576)
def OpenSpec.upto (s : _root_.Go.ChangeSpec) : _root_.Go.OpenSpec := { _root_.Go.OpenSpec.ofChange s with cond := some uptoSmall }

/-- 'quilterlaw03.HistoryLast', WHERE WHAT IT READS IS OF BULK AT MOST 1048576: true; the input reads as it did. -/
def historyLastUptoRow : OpenClaim := { program := "ytkdcmdcdjnmkaaadoor", sum := "6762bd006b8ca1634681d6215060b24c47ac173220b043e4f08c57019457b914", func := "quilter/quilterlaw03.HistoryLast", spec := "historyLast", inPlace := ["internal/bytealg.IndexByteString", "internal/bytealg.IndexString", "slices.overlaps[quilter/api.File]"], unfollowed := true, recurses := true, named := ["unicode/utf8.first", "unicode/utf8.acceptRanges", "internal/bytealg.MaxLen"], apart := false, laid := [("unicode/utf8.acceptRanges", laid_unicode_utf8_acceptRanges), ("unicode/utf8.first", laid_unicode_utf8_first)], narrowed := true }
def HistoryLastUptoSaid : Prop := historyLastUptoRow.holds Tryd.pinned (OpenSpec.upto historyLastSpec)

/-- 'quilterlaw03.HistoryStays', WHERE WHAT IT READS IS OF BULK AT MOST 1048576: true; the input reads as it did. -/
def historyStaysUptoRow : OpenClaim := { program := "ytkdcmdcdjnmkaaadoor", sum := "6762bd006b8ca1634681d6215060b24c47ac173220b043e4f08c57019457b914", func := "quilter/quilterlaw03.HistoryStays", spec := "historyStays", inPlace := ["internal/bytealg.IndexByteString", "internal/bytealg.IndexString", "slices.overlaps[quilter/api.File]"], unfollowed := true, recurses := true, named := ["unicode/utf8.first", "unicode/utf8.acceptRanges", "internal/bytealg.MaxLen"], apart := false, laid := [("unicode/utf8.acceptRanges", laid_unicode_utf8_acceptRanges), ("unicode/utf8.first", laid_unicode_utf8_first)], narrowed := true }
def HistoryStaysUptoSaid : Prop := historyStaysUptoRow.holds Tryd.pinned (OpenSpec.upto historyStaysSpec)

/-- 'quilterlaw03.HistoryAgain', WHERE WHAT IT READS IS OF BULK AT MOST 1048576: true; the input reads as it did. -/
def historyAgainUptoRow : OpenClaim := { program := "ytkdcmdcdjnmkaaadoor", sum := "6762bd006b8ca1634681d6215060b24c47ac173220b043e4f08c57019457b914", func := "quilter/quilterlaw03.HistoryAgain", spec := "historyAgain", inPlace := ["internal/bytealg.IndexByteString", "internal/bytealg.IndexString", "slices.overlaps[quilter/api.File]"], unfollowed := true, recurses := true, named := ["unicode/utf8.first", "unicode/utf8.acceptRanges", "internal/bytealg.MaxLen"], apart := false, laid := [("unicode/utf8.acceptRanges", laid_unicode_utf8_acceptRanges), ("unicode/utf8.first", laid_unicode_utf8_first)], narrowed := true }
def HistoryAgainUptoSaid : Prop := historyAgainUptoRow.holds Tryd.pinned (OpenSpec.upto historyAgainSpec)

/-- 'quilterlaw03.HistoryKeeps', WHERE WHAT IT READS IS OF BULK AT MOST 1048576: true; the input reads as it did. -/
def historyKeepsUptoRow : OpenClaim := { program := "ytkdcmdcdjnmkaaadoor", sum := "6762bd006b8ca1634681d6215060b24c47ac173220b043e4f08c57019457b914", func := "quilter/quilterlaw03.HistoryKeeps", spec := "historyKeeps", inPlace := ["internal/bytealg.IndexByteString", "internal/bytealg.IndexString", "slices.overlaps[quilter/api.File]"], unfollowed := true, recurses := true, named := ["unicode/utf8.first", "unicode/utf8.acceptRanges", "internal/bytealg.MaxLen"], apart := false, laid := [("unicode/utf8.acceptRanges", laid_unicode_utf8_acceptRanges), ("unicode/utf8.first", laid_unicode_utf8_first)], narrowed := true }
def HistoryKeepsUptoSaid : Prop := historyKeepsUptoRow.holds Tryd.pinned (OpenSpec.upto historyKeepsSpec)

/-- 'quilterlaw03.HistoryCopies', WHERE WHAT IT READS IS OF BULK AT MOST 1048576: true; the input reads as it did. -/
def historyCopiesUptoRow : OpenClaim := { program := "ytkdcmdcdjnmkaaadoor", sum := "6762bd006b8ca1634681d6215060b24c47ac173220b043e4f08c57019457b914", func := "quilter/quilterlaw03.HistoryCopies", spec := "historyCopies", inPlace := ["internal/bytealg.IndexByteString", "internal/bytealg.IndexString", "slices.overlaps[quilter/api.File]"], unfollowed := true, recurses := true, named := ["unicode/utf8.first", "unicode/utf8.acceptRanges", "internal/bytealg.MaxLen"], apart := false, laid := [("unicode/utf8.acceptRanges", laid_unicode_utf8_acceptRanges), ("unicode/utf8.first", laid_unicode_utf8_first)], narrowed := true }
def HistoryCopiesUptoSaid : Prop := historyCopiesUptoRow.holds Tryd.pinned (OpenSpec.upto historyCopiesSpec)

/-- 'quilterlaw03.HistorySteps', WHERE WHAT IT READS IS OF BULK AT MOST 1048576: true; the input reads as it did. -/
def historyStepsUptoRow : OpenClaim := { program := "ytkdcmdcdjnmkaaadoor", sum := "6762bd006b8ca1634681d6215060b24c47ac173220b043e4f08c57019457b914", func := "quilter/quilterlaw03.HistorySteps", spec := "historySteps", inPlace := ["internal/bytealg.IndexByteString", "internal/bytealg.IndexString", "slices.overlaps[quilter/api.File]"], unfollowed := true, recurses := true, named := ["unicode/utf8.first", "unicode/utf8.acceptRanges", "internal/bytealg.MaxLen"], apart := false, laid := [("unicode/utf8.acceptRanges", laid_unicode_utf8_acceptRanges), ("unicode/utf8.first", laid_unicode_utf8_first)], narrowed := true }
def HistoryStepsUptoSaid : Prop := historyStepsUptoRow.holds Tryd.pinned (OpenSpec.upto historyStepsSpec)

end Rows
end Go.Proofs.YtkdcmdcdjnmkaaaDoor

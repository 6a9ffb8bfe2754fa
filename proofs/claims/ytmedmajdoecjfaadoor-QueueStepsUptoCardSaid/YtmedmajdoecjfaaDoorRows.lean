/-
  NARROWER THAN 'FOR EVERY INPUT', by the rows' own cells (each row's printed sentence says how): QueueOthers: laid · QueueRooms: laid · QueueConflicts: laid · QueueKeeps: laid · QueueOnce: laid · QueueFirst: laid · QueueSteps: laid.
  DERIVED. THE GIVEN ROWS OF THIS SEAT. 7 by the template 'for every input the law returns true; each argument reads behind the call as it read before'; 0 by the template 'total and deterministic' (their statements: YtmedmajdoecjfaaDoorTotals.lean).
  GIVEN WITH THE SEED: the statements are not yours to turn. If you find one false, say at which input.
  Laid BY PROGRAM, IN A SANDBOX (cutbox-rows.mjs): the forced cells as the released guide's own fill.sh prints them over the translation ed195eb1545baa8b… (all of the seat's roots in one cut). By AI agents, Wed Nov 11 2026. No macro, syntax, notation, axiom, sorry.
-/
import Derived.Test.YtmedmajdoecjfaaDoorChecked
import GoSem.PinnedTables
import GoSem.Claim
import GoSem.ClaimJoined
import GoSem.ClaimMapViews
import Derived.JoinedTies
import Derived.KernelRfl
namespace Go.Proofs.YtmedmajdoecjfaaDoor
/- THE CELL 'sum', in the pinned program and in every row, IS THE sha256 OF THE DUMP (.gsa) THAT YtmedmajdoecjfaaDoorProg.lean LOADS. Nothing in Lean hashes anything: it is a label: what it is worth is what the hold of that sum in a sandbox is worth. -/
noncomputable def Tryd.pinned : Pinned := { name := "ytmedmajdoecjfaadoor", sum := "ed195eb1545baa8ba9f2e33a7ed258e044e0dfb5b1772a1b76c06ec92e4f7cc6", checked := Tryd.checked }
namespace Rows
def none {H : Type} : Left H := { results := [], args := [] }

/- WHAT THE LISTED PACKAGE-LEVEL VARIABLES READ AS WHEN THE CALL BEGINS. Each datum BY PROGRAM (the guide's laid-datum.mjs) off the statement by which the dump's own 'gosem.cut.vars' lays the variable. In a bare row this is a premise. The card (YtmedmajdoecjfaaDoorCards.lean) ties it to the program's text. -/
def laid_unicode_utf8_acceptRanges {H : Type} : DataW H := .agg [.agg [.lit (.int .u8 128), .lit (.int .u8 191)], .agg [.lit (.int .u8 160), .lit (.int .u8 191)], .agg [.lit (.int .u8 128), .lit (.int .u8 159)], .agg [.lit (.int .u8 144), .lit (.int .u8 191)], .agg [.lit (.int .u8 128), .lit (.int .u8 143)], .agg [.lit (.int .u8 0), .lit (.int .u8 0)], .agg [.lit (.int .u8 0), .lit (.int .u8 0)], .agg [.lit (.int .u8 0), .lit (.int .u8 0)], .agg [.lit (.int .u8 0), .lit (.int .u8 0)], .agg [.lit (.int .u8 0), .lit (.int .u8 0)], .agg [.lit (.int .u8 0), .lit (.int .u8 0)], .agg [.lit (.int .u8 0), .lit (.int .u8 0)], .agg [.lit (.int .u8 0), .lit (.int .u8 0)], .agg [.lit (.int .u8 0), .lit (.int .u8 0)], .agg [.lit (.int .u8 0), .lit (.int .u8 0)], .agg [.lit (.int .u8 0), .lit (.int .u8 0)]]
/-- One of Go's own tables, pinned by name: the form's constant. -/
def laid_unicode_utf8_first : DataW Unit := Go.Pinned.utf8First

/-- 'quilterlaw13.QueueOthers': WHATEVER THE INPUT: true; the input reads as it did. -/
def queueOthersSpec : ChangeSpec := { name := "queueOthers", fn := fun _ => fun
  | [d1, d2, d3, d4, d5] => { results := [.lit (.bool true)], args := [d1, d2, d3, d4, d5] }
  | _ => none }
def queueOthersRow : OpenClaim := { program := "ytmedmajdoecjfaadoor", sum := "ed195eb1545baa8ba9f2e33a7ed258e044e0dfb5b1772a1b76c06ec92e4f7cc6", func := "quilter/quilterlaw13.QueueOthers", spec := "queueOthers", inPlace := ["internal/bytealg.IndexByteString", "internal/bytealg.IndexString", "slices.overlaps[quilter/api.File]"], unfollowed := true, recurses := true, named := ["unicode/utf8.first", "unicode/utf8.acceptRanges", "internal/bytealg.MaxLen"], apart := false, laid := [("unicode/utf8.acceptRanges", laid_unicode_utf8_acceptRanges), ("unicode/utf8.first", laid_unicode_utf8_first)] }
def QueueOthersSaid : Prop := queueOthersRow.holds Tryd.pinned (OpenSpec.ofChange queueOthersSpec)

/-- ITS FALSE NEIGHBOUR: 'it returns false'. Refute it at one input. -/
def queueOthersWrong : ChangeSpec := { name := "queueOthers", fn := fun _ => fun
  | [d1, d2, d3, d4, d5] => { results := [.lit (.bool false)], args := [d1, d2, d3, d4, d5] }
  | _ => none }
def QueueOthersWrongFalsely : Prop := queueOthersRow.holds Tryd.pinned (OpenSpec.ofChange queueOthersWrong)

/-- 'quilterlaw13.QueueRooms': WHATEVER THE INPUT: true; the input reads as it did. -/
def queueRoomsSpec : ChangeSpec := { name := "queueRooms", fn := fun _ => fun
  | [d] => { results := [.lit (.bool true)], args := [d] }
  | _ => none }
def queueRoomsRow : OpenClaim := { program := "ytmedmajdoecjfaadoor", sum := "ed195eb1545baa8ba9f2e33a7ed258e044e0dfb5b1772a1b76c06ec92e4f7cc6", func := "quilter/quilterlaw13.QueueRooms", spec := "queueRooms", inPlace := ["internal/bytealg.IndexByteString", "internal/bytealg.IndexString", "slices.overlaps[quilter/api.File]"], unfollowed := true, recurses := true, named := ["unicode/utf8.first", "unicode/utf8.acceptRanges", "internal/bytealg.MaxLen"], apart := false, laid := [("unicode/utf8.acceptRanges", laid_unicode_utf8_acceptRanges), ("unicode/utf8.first", laid_unicode_utf8_first)] }
def QueueRoomsSaid : Prop := queueRoomsRow.holds Tryd.pinned (OpenSpec.ofChange queueRoomsSpec)

/-- ITS FALSE NEIGHBOUR: 'it returns false'. Refute it at one input. -/
def queueRoomsWrong : ChangeSpec := { name := "queueRooms", fn := fun _ => fun
  | [d] => { results := [.lit (.bool false)], args := [d] }
  | _ => none }
def QueueRoomsWrongFalsely : Prop := queueRoomsRow.holds Tryd.pinned (OpenSpec.ofChange queueRoomsWrong)

/-- 'quilterlaw13.QueueConflicts': WHATEVER THE INPUT: true; the input reads as it did. -/
def queueConflictsSpec : ChangeSpec := { name := "queueConflicts", fn := fun _ => fun
  | [d1, d2, d3, d4] => { results := [.lit (.bool true)], args := [d1, d2, d3, d4] }
  | _ => none }
def queueConflictsRow : OpenClaim := { program := "ytmedmajdoecjfaadoor", sum := "ed195eb1545baa8ba9f2e33a7ed258e044e0dfb5b1772a1b76c06ec92e4f7cc6", func := "quilter/quilterlaw13.QueueConflicts", spec := "queueConflicts", inPlace := ["internal/bytealg.IndexByteString", "internal/bytealg.IndexString", "slices.overlaps[quilter/api.File]"], unfollowed := true, recurses := true, named := ["unicode/utf8.first", "unicode/utf8.acceptRanges", "internal/bytealg.MaxLen"], apart := false, laid := [("unicode/utf8.acceptRanges", laid_unicode_utf8_acceptRanges), ("unicode/utf8.first", laid_unicode_utf8_first)] }
def QueueConflictsSaid : Prop := queueConflictsRow.holds Tryd.pinned (OpenSpec.ofChange queueConflictsSpec)

/-- ITS FALSE NEIGHBOUR: 'it returns false'. Refute it at one input. -/
def queueConflictsWrong : ChangeSpec := { name := "queueConflicts", fn := fun _ => fun
  | [d1, d2, d3, d4] => { results := [.lit (.bool false)], args := [d1, d2, d3, d4] }
  | _ => none }
def QueueConflictsWrongFalsely : Prop := queueConflictsRow.holds Tryd.pinned (OpenSpec.ofChange queueConflictsWrong)

/-- 'quilterlaw13.QueueKeeps': WHATEVER THE INPUT: true; the input reads as it did. -/
def queueKeepsSpec : ChangeSpec := { name := "queueKeeps", fn := fun _ => fun
  | [d1, d2] => { results := [.lit (.bool true)], args := [d1, d2] }
  | _ => none }
def queueKeepsRow : OpenClaim := { program := "ytmedmajdoecjfaadoor", sum := "ed195eb1545baa8ba9f2e33a7ed258e044e0dfb5b1772a1b76c06ec92e4f7cc6", func := "quilter/quilterlaw13.QueueKeeps", spec := "queueKeeps", inPlace := ["internal/bytealg.IndexByteString", "internal/bytealg.IndexString", "slices.overlaps[quilter/api.File]"], unfollowed := true, recurses := true, named := ["unicode/utf8.first", "unicode/utf8.acceptRanges", "internal/bytealg.MaxLen"], apart := false, laid := [("unicode/utf8.acceptRanges", laid_unicode_utf8_acceptRanges), ("unicode/utf8.first", laid_unicode_utf8_first)] }
def QueueKeepsSaid : Prop := queueKeepsRow.holds Tryd.pinned (OpenSpec.ofChange queueKeepsSpec)

/-- ITS FALSE NEIGHBOUR: 'it returns false'. Refute it at one input. -/
def queueKeepsWrong : ChangeSpec := { name := "queueKeeps", fn := fun _ => fun
  | [d1, d2] => { results := [.lit (.bool false)], args := [d1, d2] }
  | _ => none }
def QueueKeepsWrongFalsely : Prop := queueKeepsRow.holds Tryd.pinned (OpenSpec.ofChange queueKeepsWrong)

/-- 'quilterlaw13.QueueOnce': WHATEVER THE INPUT: true; the input reads as it did. -/
def queueOnceSpec : ChangeSpec := { name := "queueOnce", fn := fun _ => fun
  | [d1, d2] => { results := [.lit (.bool true)], args := [d1, d2] }
  | _ => none }
def queueOnceRow : OpenClaim := { program := "ytmedmajdoecjfaadoor", sum := "ed195eb1545baa8ba9f2e33a7ed258e044e0dfb5b1772a1b76c06ec92e4f7cc6", func := "quilter/quilterlaw13.QueueOnce", spec := "queueOnce", inPlace := ["internal/bytealg.IndexByteString", "internal/bytealg.IndexString", "slices.overlaps[quilter/api.File]"], unfollowed := true, recurses := true, named := ["unicode/utf8.first", "unicode/utf8.acceptRanges", "internal/bytealg.MaxLen"], apart := false, laid := [("unicode/utf8.acceptRanges", laid_unicode_utf8_acceptRanges), ("unicode/utf8.first", laid_unicode_utf8_first)] }
def QueueOnceSaid : Prop := queueOnceRow.holds Tryd.pinned (OpenSpec.ofChange queueOnceSpec)

/-- ITS FALSE NEIGHBOUR: 'it returns false'. Refute it at one input. -/
def queueOnceWrong : ChangeSpec := { name := "queueOnce", fn := fun _ => fun
  | [d1, d2] => { results := [.lit (.bool false)], args := [d1, d2] }
  | _ => none }
def QueueOnceWrongFalsely : Prop := queueOnceRow.holds Tryd.pinned (OpenSpec.ofChange queueOnceWrong)

/-- 'quilterlaw13.QueueFirst': WHATEVER THE INPUT: true; the input reads as it did. -/
def queueFirstSpec : ChangeSpec := { name := "queueFirst", fn := fun _ => fun
  | [d1, d2] => { results := [.lit (.bool true)], args := [d1, d2] }
  | _ => none }
def queueFirstRow : OpenClaim := { program := "ytmedmajdoecjfaadoor", sum := "ed195eb1545baa8ba9f2e33a7ed258e044e0dfb5b1772a1b76c06ec92e4f7cc6", func := "quilter/quilterlaw13.QueueFirst", spec := "queueFirst", inPlace := ["internal/bytealg.IndexByteString", "internal/bytealg.IndexString", "slices.overlaps[quilter/api.File]"], unfollowed := true, recurses := true, named := ["unicode/utf8.first", "unicode/utf8.acceptRanges", "internal/bytealg.MaxLen"], apart := false, laid := [("unicode/utf8.acceptRanges", laid_unicode_utf8_acceptRanges), ("unicode/utf8.first", laid_unicode_utf8_first)] }
def QueueFirstSaid : Prop := queueFirstRow.holds Tryd.pinned (OpenSpec.ofChange queueFirstSpec)

/-- ITS FALSE NEIGHBOUR: 'it returns false'. Refute it at one input. -/
def queueFirstWrong : ChangeSpec := { name := "queueFirst", fn := fun _ => fun
  | [d1, d2] => { results := [.lit (.bool false)], args := [d1, d2] }
  | _ => none }
def QueueFirstWrongFalsely : Prop := queueFirstRow.holds Tryd.pinned (OpenSpec.ofChange queueFirstWrong)

/-- 'quilterlaw13.QueueSteps': WHATEVER THE INPUT: true; the input reads as it did. -/
def queueStepsSpec : ChangeSpec := { name := "queueSteps", fn := fun _ => fun
  | [d1, d2, d3] => { results := [.lit (.bool true)], args := [d1, d2, d3] }
  | _ => none }
def queueStepsRow : OpenClaim := { program := "ytmedmajdoecjfaadoor", sum := "ed195eb1545baa8ba9f2e33a7ed258e044e0dfb5b1772a1b76c06ec92e4f7cc6", func := "quilter/quilterlaw13.QueueSteps", spec := "queueSteps", inPlace := ["internal/bytealg.IndexByteString", "internal/bytealg.IndexString", "slices.overlaps[quilter/api.File]"], unfollowed := true, recurses := true, named := ["unicode/utf8.first", "unicode/utf8.acceptRanges", "internal/bytealg.MaxLen"], apart := false, laid := [("unicode/utf8.acceptRanges", laid_unicode_utf8_acceptRanges), ("unicode/utf8.first", laid_unicode_utf8_first)] }
def QueueStepsSaid : Prop := queueStepsRow.holds Tryd.pinned (OpenSpec.ofChange queueStepsSpec)

/-- ITS FALSE NEIGHBOUR: 'it returns false'. Refute it at one input. -/
def queueStepsWrong : ChangeSpec := { name := "queueSteps", fn := fun _ => fun
  | [d1, d2, d3] => { results := [.lit (.bool false)], args := [d1, d2, d3] }
  | _ => none }
def QueueStepsWrongFalsely : Prop := queueStepsRow.holds Tryd.pinned (OpenSpec.ofChange queueStepsWrong)

/- THE SECOND FORM. 'bulk': how many values and letters a reading holds, each counted each time it is reached (what is shared counts as often as it is met; a slice's spare places count too). A statement '..UptoSaid' is the law's where the arguments, and the package variables that the reading takes, are together of bulk at most 1048576: NARROWER than '..Said'. Prove '..Said' where nothing that the law and all that it calls make is longer than what came in: it says more and counts as full. Else prove '..UptoSaid'. A law counts once. -/
mutual
def uptoBulk {H : Type} : DataW H → Nat
  | .lit (.string bytes) => bytes.length + 1
  | .lit _ => 1
  | .nil => 1
  | .ptr d => uptoBulk d + 1
  | .slice elems spare => uptoBulkAll elems + uptoBulkAll spare + 1
  | .agg parts => uptoBulkAll parts + 1
  | .iface _ d => uptoBulk d + 1
  | .map entries => uptoBulkEntries entries + 1
  | .held _ => 1
def uptoBulkAll {H : Type} : List (DataW H) → Nat
  | [] => 0
  | d :: r => uptoBulk d + uptoBulkAll r
def uptoBulkEntries {H : Type} : List (Lit × DataW H) → Nat
  | [] => 0
  | x :: r => uptoBulkEntry x + uptoBulkEntries r
def uptoBulkEntry {H : Type} : Lit × DataW H → Nat
  | (.string bytes, d) => bytes.length + uptoBulk d + 1
  | (_, d) => uptoBulk d + 1
 end
def uptoSmall : (H : Type) → List (DataW H) → Bool := fun _ ds => decide (uptoBulkAll ds ≤ 1048576)
def OpenSpec.upto (s : _root_.Go.ChangeSpec) : _root_.Go.OpenSpec := { _root_.Go.OpenSpec.ofChange s with cond := some uptoSmall }

/-- 'quilterlaw13.QueueOthers', WHERE WHAT IT READS IS OF BULK AT MOST 1048576: true; the input reads as it did. -/
def queueOthersUptoRow : OpenClaim := { program := "ytmedmajdoecjfaadoor", sum := "ed195eb1545baa8ba9f2e33a7ed258e044e0dfb5b1772a1b76c06ec92e4f7cc6", func := "quilter/quilterlaw13.QueueOthers", spec := "queueOthers", inPlace := ["internal/bytealg.IndexByteString", "internal/bytealg.IndexString", "slices.overlaps[quilter/api.File]"], unfollowed := true, recurses := true, named := ["unicode/utf8.first", "unicode/utf8.acceptRanges", "internal/bytealg.MaxLen"], apart := false, laid := [("unicode/utf8.acceptRanges", laid_unicode_utf8_acceptRanges), ("unicode/utf8.first", laid_unicode_utf8_first)], narrowed := true }
def QueueOthersUptoSaid : Prop := queueOthersUptoRow.holds Tryd.pinned (OpenSpec.upto queueOthersSpec)

/-- 'quilterlaw13.QueueRooms', WHERE WHAT IT READS IS OF BULK AT MOST 1048576: true; the input reads as it did. -/
def queueRoomsUptoRow : OpenClaim := { program := "ytmedmajdoecjfaadoor", sum := "ed195eb1545baa8ba9f2e33a7ed258e044e0dfb5b1772a1b76c06ec92e4f7cc6", func := "quilter/quilterlaw13.QueueRooms", spec := "queueRooms", inPlace := ["internal/bytealg.IndexByteString", "internal/bytealg.IndexString", "slices.overlaps[quilter/api.File]"], unfollowed := true, recurses := true, named := ["unicode/utf8.first", "unicode/utf8.acceptRanges", "internal/bytealg.MaxLen"], apart := false, laid := [("unicode/utf8.acceptRanges", laid_unicode_utf8_acceptRanges), ("unicode/utf8.first", laid_unicode_utf8_first)], narrowed := true }
def QueueRoomsUptoSaid : Prop := queueRoomsUptoRow.holds Tryd.pinned (OpenSpec.upto queueRoomsSpec)

/-- 'quilterlaw13.QueueConflicts', WHERE WHAT IT READS IS OF BULK AT MOST 1048576: true; the input reads as it did. -/
def queueConflictsUptoRow : OpenClaim := { program := "ytmedmajdoecjfaadoor", sum := "ed195eb1545baa8ba9f2e33a7ed258e044e0dfb5b1772a1b76c06ec92e4f7cc6", func := "quilter/quilterlaw13.QueueConflicts", spec := "queueConflicts", inPlace := ["internal/bytealg.IndexByteString", "internal/bytealg.IndexString", "slices.overlaps[quilter/api.File]"], unfollowed := true, recurses := true, named := ["unicode/utf8.first", "unicode/utf8.acceptRanges", "internal/bytealg.MaxLen"], apart := false, laid := [("unicode/utf8.acceptRanges", laid_unicode_utf8_acceptRanges), ("unicode/utf8.first", laid_unicode_utf8_first)], narrowed := true }
def QueueConflictsUptoSaid : Prop := queueConflictsUptoRow.holds Tryd.pinned (OpenSpec.upto queueConflictsSpec)

/-- 'quilterlaw13.QueueKeeps', WHERE WHAT IT READS IS OF BULK AT MOST 1048576: true; the input reads as it did. -/
def queueKeepsUptoRow : OpenClaim := { program := "ytmedmajdoecjfaadoor", sum := "ed195eb1545baa8ba9f2e33a7ed258e044e0dfb5b1772a1b76c06ec92e4f7cc6", func := "quilter/quilterlaw13.QueueKeeps", spec := "queueKeeps", inPlace := ["internal/bytealg.IndexByteString", "internal/bytealg.IndexString", "slices.overlaps[quilter/api.File]"], unfollowed := true, recurses := true, named := ["unicode/utf8.first", "unicode/utf8.acceptRanges", "internal/bytealg.MaxLen"], apart := false, laid := [("unicode/utf8.acceptRanges", laid_unicode_utf8_acceptRanges), ("unicode/utf8.first", laid_unicode_utf8_first)], narrowed := true }
def QueueKeepsUptoSaid : Prop := queueKeepsUptoRow.holds Tryd.pinned (OpenSpec.upto queueKeepsSpec)

/-- 'quilterlaw13.QueueOnce', WHERE WHAT IT READS IS OF BULK AT MOST 1048576: true; the input reads as it did. -/
def queueOnceUptoRow : OpenClaim := { program := "ytmedmajdoecjfaadoor", sum := "ed195eb1545baa8ba9f2e33a7ed258e044e0dfb5b1772a1b76c06ec92e4f7cc6", func := "quilter/quilterlaw13.QueueOnce", spec := "queueOnce", inPlace := ["internal/bytealg.IndexByteString", "internal/bytealg.IndexString", "slices.overlaps[quilter/api.File]"], unfollowed := true, recurses := true, named := ["unicode/utf8.first", "unicode/utf8.acceptRanges", "internal/bytealg.MaxLen"], apart := false, laid := [("unicode/utf8.acceptRanges", laid_unicode_utf8_acceptRanges), ("unicode/utf8.first", laid_unicode_utf8_first)], narrowed := true }
def QueueOnceUptoSaid : Prop := queueOnceUptoRow.holds Tryd.pinned (OpenSpec.upto queueOnceSpec)

/-- 'quilterlaw13.QueueFirst', WHERE WHAT IT READS IS OF BULK AT MOST 1048576: true; the input reads as it did. -/
def queueFirstUptoRow : OpenClaim := { program := "ytmedmajdoecjfaadoor", sum := "ed195eb1545baa8ba9f2e33a7ed258e044e0dfb5b1772a1b76c06ec92e4f7cc6", func := "quilter/quilterlaw13.QueueFirst", spec := "queueFirst", inPlace := ["internal/bytealg.IndexByteString", "internal/bytealg.IndexString", "slices.overlaps[quilter/api.File]"], unfollowed := true, recurses := true, named := ["unicode/utf8.first", "unicode/utf8.acceptRanges", "internal/bytealg.MaxLen"], apart := false, laid := [("unicode/utf8.acceptRanges", laid_unicode_utf8_acceptRanges), ("unicode/utf8.first", laid_unicode_utf8_first)], narrowed := true }
def QueueFirstUptoSaid : Prop := queueFirstUptoRow.holds Tryd.pinned (OpenSpec.upto queueFirstSpec)

/-- 'quilterlaw13.QueueSteps', WHERE WHAT IT READS IS OF BULK AT MOST 1048576: true; the input reads as it did. -/
def queueStepsUptoRow : OpenClaim := { program := "ytmedmajdoecjfaadoor", sum := "ed195eb1545baa8ba9f2e33a7ed258e044e0dfb5b1772a1b76c06ec92e4f7cc6", func := "quilter/quilterlaw13.QueueSteps", spec := "queueSteps", inPlace := ["internal/bytealg.IndexByteString", "internal/bytealg.IndexString", "slices.overlaps[quilter/api.File]"], unfollowed := true, recurses := true, named := ["unicode/utf8.first", "unicode/utf8.acceptRanges", "internal/bytealg.MaxLen"], apart := false, laid := [("unicode/utf8.acceptRanges", laid_unicode_utf8_acceptRanges), ("unicode/utf8.first", laid_unicode_utf8_first)], narrowed := true }
def QueueStepsUptoSaid : Prop := queueStepsUptoRow.holds Tryd.pinned (OpenSpec.upto queueStepsSpec)

end Rows
end Go.Proofs.YtmedmajdoecjfaaDoor

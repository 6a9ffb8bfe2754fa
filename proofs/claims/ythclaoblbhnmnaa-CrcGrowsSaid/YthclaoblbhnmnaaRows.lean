/-
  No cell of these rows narrows 'for every input' (looked for: loops, veiled, ifaces, maps, wideKeys, modest, calm, conditions, laid).
  DERIVED. THE GIVEN ROWS OF THIS SEAT. 6 by the template 'for every input the law returns true; each argument reads behind the call as it read before'; 0 by the template 'total and deterministic' (their statements: YthclaoblbhnmnaaTotals.lean).
  GIVEN WITH THE SEED: the statements are not yours to turn. If you find one false, say at which input.
  Laid BY PROGRAM, IN A SANDBOX (cutbox-rows.mjs): the forced cells as the released guide's own fill.sh prints them over the translation e6bb5890db9c9e99… (all of the seat's roots in one cut). By AI agents, Wed Nov 11 2026. No macro, syntax, notation, axiom, sorry.
-/
import Derived.Test.YthclaoblbhnmnaaChecked
import GoSem.Claim
import GoSem.ClaimJoined
import GoSem.ClaimMapViews
import Derived.JoinedTies
import Derived.KernelRfl
namespace Go.Proofs.Ythclaoblbhnmnaa
/- THE CELL 'sum', in the pinned program and in every row, IS THE sha256 OF THE DUMP (.gsa) THAT YthclaoblbhnmnaaProg.lean LOADS. Nothing in Lean hashes anything: it is a label: what it is worth is what the hold of that sum in a sandbox is worth. -/
noncomputable def Try.pinned : Pinned := { name := "ythclaoblbhnmnaa", sum := "e6bb5890db9c9e99c1f3ce5099c02ee0dac8268cea9ec0dacd4c3b29b5ffde14", checked := Try.checked }
namespace Rows
def none {H : Type} : Left H := { results := [], args := [] }

/-- 'quilterlaw04.CrcSums': WHATEVER THE INPUT: true; the input reads as it did. -/
def crcSumsSpec : ChangeSpec := { name := "crcSums", fn := fun _ => fun
  | [d1, d2] => { results := [.lit (.bool true)], args := [d1, d2] }
  | _ => none }
def crcSumsRow : OpenClaim := { program := "ythclaoblbhnmnaa", sum := "e6bb5890db9c9e99c1f3ce5099c02ee0dac8268cea9ec0dacd4c3b29b5ffde14", func := "quilter/quilterlaw04.CrcSums", spec := "crcSums", apart := false }
def CrcSumsSaid : Prop := crcSumsRow.holds Try.pinned (OpenSpec.ofChange crcSumsSpec)

/-- ITS FALSE NEIGHBOUR: 'it returns false'. Refute it at one input. -/
def crcSumsWrong : ChangeSpec := { name := "crcSums", fn := fun _ => fun
  | [d1, d2] => { results := [.lit (.bool false)], args := [d1, d2] }
  | _ => none }
def CrcSumsWrongFalsely : Prop := crcSumsRow.holds Try.pinned (OpenSpec.ofChange crcSumsWrong)

/-- 'quilterlaw04.CrcPieces': WHATEVER THE INPUT: true; the input reads as it did. -/
def crcPiecesSpec : ChangeSpec := { name := "crcPieces", fn := fun _ => fun
  | [d1, d2, d3] => { results := [.lit (.bool true)], args := [d1, d2, d3] }
  | _ => none }
def crcPiecesRow : OpenClaim := { program := "ythclaoblbhnmnaa", sum := "e6bb5890db9c9e99c1f3ce5099c02ee0dac8268cea9ec0dacd4c3b29b5ffde14", func := "quilter/quilterlaw04.CrcPieces", spec := "crcPieces", apart := false }
def CrcPiecesSaid : Prop := crcPiecesRow.holds Try.pinned (OpenSpec.ofChange crcPiecesSpec)

/-- ITS FALSE NEIGHBOUR: 'it returns false'. Refute it at one input. -/
def crcPiecesWrong : ChangeSpec := { name := "crcPieces", fn := fun _ => fun
  | [d1, d2, d3] => { results := [.lit (.bool false)], args := [d1, d2, d3] }
  | _ => none }
def CrcPiecesWrongFalsely : Prop := crcPiecesRow.holds Try.pinned (OpenSpec.ofChange crcPiecesWrong)

/-- 'quilterlaw04.CrcBits': WHATEVER THE INPUT: true; the input reads as it did. -/
def crcBitsSpec : ChangeSpec := { name := "crcBits", fn := fun _ => fun
  | [d1, d2, d3] => { results := [.lit (.bool true)], args := [d1, d2, d3] }
  | _ => none }
def crcBitsRow : OpenClaim := { program := "ythclaoblbhnmnaa", sum := "e6bb5890db9c9e99c1f3ce5099c02ee0dac8268cea9ec0dacd4c3b29b5ffde14", func := "quilter/quilterlaw04.CrcBits", spec := "crcBits", apart := false }
def CrcBitsSaid : Prop := crcBitsRow.holds Try.pinned (OpenSpec.ofChange crcBitsSpec)

/-- ITS FALSE NEIGHBOUR: 'it returns false'. Refute it at one input. -/
def crcBitsWrong : ChangeSpec := { name := "crcBits", fn := fun _ => fun
  | [d1, d2, d3] => { results := [.lit (.bool false)], args := [d1, d2, d3] }
  | _ => none }
def CrcBitsWrongFalsely : Prop := crcBitsRow.holds Try.pinned (OpenSpec.ofChange crcBitsWrong)

/-- 'quilterlaw04.CrcXor': WHATEVER THE INPUT: true; the input reads as it did. -/
def crcXorSpec : ChangeSpec := { name := "crcXor", fn := fun _ => fun
  | [d1, d2, d3] => { results := [.lit (.bool true)], args := [d1, d2, d3] }
  | _ => none }
def crcXorRow : OpenClaim := { program := "ythclaoblbhnmnaa", sum := "e6bb5890db9c9e99c1f3ce5099c02ee0dac8268cea9ec0dacd4c3b29b5ffde14", func := "quilter/quilterlaw04.CrcXor", spec := "crcXor", apart := false }
def CrcXorSaid : Prop := crcXorRow.holds Try.pinned (OpenSpec.ofChange crcXorSpec)

/-- ITS FALSE NEIGHBOUR: 'it returns false'. Refute it at one input. -/
def crcXorWrong : ChangeSpec := { name := "crcXor", fn := fun _ => fun
  | [d1, d2, d3] => { results := [.lit (.bool false)], args := [d1, d2, d3] }
  | _ => none }
def CrcXorWrongFalsely : Prop := crcXorRow.holds Try.pinned (OpenSpec.ofChange crcXorWrong)

/-- 'quilterlaw04.CrcGrows': WHATEVER THE INPUT: true; the input reads as it did. -/
def crcGrowsSpec : ChangeSpec := { name := "crcGrows", fn := fun _ => fun
  | [d1, d2, d3, d4, d5] => { results := [.lit (.bool true)], args := [d1, d2, d3, d4, d5] }
  | _ => none }
def crcGrowsRow : OpenClaim := { program := "ythclaoblbhnmnaa", sum := "e6bb5890db9c9e99c1f3ce5099c02ee0dac8268cea9ec0dacd4c3b29b5ffde14", func := "quilter/quilterlaw04.CrcGrows", spec := "crcGrows", apart := false }
def CrcGrowsSaid : Prop := crcGrowsRow.holds Try.pinned (OpenSpec.ofChange crcGrowsSpec)

/-- ITS FALSE NEIGHBOUR: 'it returns false'. Refute it at one input. -/
def crcGrowsWrong : ChangeSpec := { name := "crcGrows", fn := fun _ => fun
  | [d1, d2, d3, d4, d5] => { results := [.lit (.bool false)], args := [d1, d2, d3, d4, d5] }
  | _ => none }
def CrcGrowsWrongFalsely : Prop := crcGrowsRow.holds Try.pinned (OpenSpec.ofChange crcGrowsWrong)

/-- 'quilterlaw04.CrcOne': WHATEVER THE INPUT: true; the input reads as it did. -/
def crcOneSpec : ChangeSpec := { name := "crcOne", fn := fun _ => fun
  | [d1, d2, d3] => { results := [.lit (.bool true)], args := [d1, d2, d3] }
  | _ => none }
def crcOneRow : OpenClaim := { program := "ythclaoblbhnmnaa", sum := "e6bb5890db9c9e99c1f3ce5099c02ee0dac8268cea9ec0dacd4c3b29b5ffde14", func := "quilter/quilterlaw04.CrcOne", spec := "crcOne", apart := false }
def CrcOneSaid : Prop := crcOneRow.holds Try.pinned (OpenSpec.ofChange crcOneSpec)

/-- ITS FALSE NEIGHBOUR: 'it returns false'. Refute it at one input. -/
def crcOneWrong : ChangeSpec := { name := "crcOne", fn := fun _ => fun
  | [d1, d2, d3] => { results := [.lit (.bool false)], args := [d1, d2, d3] }
  | _ => none }
def CrcOneWrongFalsely : Prop := crcOneRow.holds Try.pinned (OpenSpec.ofChange crcOneWrong)

/- THE SECOND FORM. 'bulk': how many values and letters a reading holds, each counted each time it is reached (what is shared counts as often as it is met; a slice's spare places count too). A statement '..UptoSaid' is the law's where the arguments, and the package variables that the reading takes, are together of bulk at most 1048576: NARROWER than '..Said'. Prove '..Said' where nothing that the law and all that it calls make is longer than what came in: it says more and counts as full. Else prove '..UptoSaid'. A law counts once. -/
mutual
def uptoBulk {H : Type} : DataW H → Nat
  | .lit (.string bytes) => bytes.length + 1
  | .lit _ => 1
  | .nil => 1
  | .ptr d => uptoBulk d + 1
  | .slice elems spare => uptoBulkAll elems + uptoBulkAll spare + 1
  | .agg parts => uptoBulkAll parts + 1
  | .iface _ d => uptoBulk d + 1
  | .map entries => uptoBulkEntries entries + 1
  | .held _ => 1
def uptoBulkAll {H : Type} : List (DataW H) → Nat
  | [] => 0
  | d :: r => uptoBulk d + uptoBulkAll r
def uptoBulkEntries {H : Type} : List (Lit × DataW H) → Nat
  | [] => 0
  | x :: r => uptoBulkEntry x + uptoBulkEntries r
def uptoBulkEntry {H : Type} : Lit × DataW H → Nat
  | (.string bytes, d) => bytes.length + uptoBulk d + 1
  | (_, d) => uptoBulk d + 1
 end
def uptoSmall : (H : Type) → List (DataW H) → Bool := fun _ ds => decide (uptoBulkAll ds ≤ 1048576)
def OpenSpec.upto (s : _root_.Go.ChangeSpec) : _root_.Go.OpenSpec := { _root_.Go.OpenSpec.ofChange s with cond := some uptoSmall }

/-- 'quilterlaw04.CrcSums', WHERE WHAT IT READS IS OF BULK AT MOST 1048576: true; the input reads as it did. -/
def crcSumsUptoRow : OpenClaim := { program := "ythclaoblbhnmnaa", sum := "e6bb5890db9c9e99c1f3ce5099c02ee0dac8268cea9ec0dacd4c3b29b5ffde14", func := "quilter/quilterlaw04.CrcSums", spec := "crcSums", apart := false, narrowed := true }
def CrcSumsUptoSaid : Prop := crcSumsUptoRow.holds Try.pinned (OpenSpec.upto crcSumsSpec)

/-- 'quilterlaw04.CrcPieces', WHERE WHAT IT READS IS OF BULK AT MOST 1048576: true; the input reads as it did. -/
def crcPiecesUptoRow : OpenClaim := { program := "ythclaoblbhnmnaa", sum := "e6bb5890db9c9e99c1f3ce5099c02ee0dac8268cea9ec0dacd4c3b29b5ffde14", func := "quilter/quilterlaw04.CrcPieces", spec := "crcPieces", apart := false, narrowed := true }
def CrcPiecesUptoSaid : Prop := crcPiecesUptoRow.holds Try.pinned (OpenSpec.upto crcPiecesSpec)

/-- 'quilterlaw04.CrcBits', WHERE WHAT IT READS IS OF BULK AT MOST 1048576: true; the input reads as it did. -/
def crcBitsUptoRow : OpenClaim := { program := "ythclaoblbhnmnaa", sum := "e6bb5890db9c9e99c1f3ce5099c02ee0dac8268cea9ec0dacd4c3b29b5ffde14", func := "quilter/quilterlaw04.CrcBits", spec := "crcBits", apart := false, narrowed := true }
def CrcBitsUptoSaid : Prop := crcBitsUptoRow.holds Try.pinned (OpenSpec.upto crcBitsSpec)

/-- 'quilterlaw04.CrcXor', WHERE WHAT IT READS IS OF BULK AT MOST 1048576: true; the input reads as it did. -/
def crcXorUptoRow : OpenClaim := { program := "ythclaoblbhnmnaa", sum := "e6bb5890db9c9e99c1f3ce5099c02ee0dac8268cea9ec0dacd4c3b29b5ffde14", func := "quilter/quilterlaw04.CrcXor", spec := "crcXor", apart := false, narrowed := true }
def CrcXorUptoSaid : Prop := crcXorUptoRow.holds Try.pinned (OpenSpec.upto crcXorSpec)

/-- 'quilterlaw04.CrcGrows', WHERE WHAT IT READS IS OF BULK AT MOST 1048576: true; the input reads as it did. -/
def crcGrowsUptoRow : OpenClaim := { program := "ythclaoblbhnmnaa", sum := "e6bb5890db9c9e99c1f3ce5099c02ee0dac8268cea9ec0dacd4c3b29b5ffde14", func := "quilter/quilterlaw04.CrcGrows", spec := "crcGrows", apart := false, narrowed := true }
def CrcGrowsUptoSaid : Prop := crcGrowsUptoRow.holds Try.pinned (OpenSpec.upto crcGrowsSpec)

/-- 'quilterlaw04.CrcOne', WHERE WHAT IT READS IS OF BULK AT MOST 1048576: true; the input reads as it did. -/
def crcOneUptoRow : OpenClaim := { program := "ythclaoblbhnmnaa", sum := "e6bb5890db9c9e99c1f3ce5099c02ee0dac8268cea9ec0dacd4c3b29b5ffde14", func := "quilter/quilterlaw04.CrcOne", spec := "crcOne", apart := false, narrowed := true }
def CrcOneUptoSaid : Prop := crcOneUptoRow.holds Try.pinned (OpenSpec.upto crcOneSpec)

end Rows
end Go.Proofs.Ythclaoblbhnmnaa

/-
  No cell of these rows narrows 'for every input' (looked for: loops, veiled, ifaces, maps, wideKeys, modest, calm, conditions, laid).
  DERIVED. THE GIVEN ROWS OF THIS SEAT. 7 by the template 'for every input the law returns true; each argument reads behind the call as it read before'; 0 by the template 'total and deterministic' (their statements: YtfocbkdoolnijaaTotals.lean).
  GIVEN WITH THE SEED: the statements are not yours to turn. If you find one false, say at which input.
  Laid BY PROGRAM, IN A SANDBOX (cutbox-rows.mjs): the forced cells as the released guide's own fill.sh prints them over the translation 7642d7808f2f8cbd… (all of the seat's roots in one cut). By AI agents, Wed Nov 11 2026. No macro, syntax, notation, axiom, sorry.
-/
import Derived.Test.YtfocbkdoolnijaaChecked
import GoSem.Claim
import GoSem.ClaimJoined
import GoSem.ClaimMapViews
import Derived.JoinedTies
import Derived.KernelRfl
namespace Go.Proofs.Ytfocbkdoolnijaa
/- THE CELL 'sum', in the pinned program and in every row, IS THE sha256 OF THE DUMP (.gsa) THAT YtfocbkdoolnijaaProg.lean LOADS. Nothing in Lean hashes anything: it is a label: what it is worth is what the hold of that sum in a sandbox is worth. -/
noncomputable def Try.pinned : Pinned := { name := "ytfocbkdoolnijaa", sum := "7642d7808f2f8cbd6855b802eb4d459582d158da36a5a58ff3846a14f69c1b25", checked := Try.checked }
namespace Rows
def none {H : Type} : Left H := { results := [], args := [] }

/-- 'quilterlaw16.LifeEnds': WHATEVER THE INPUT: true; the input reads as it did. -/
def lifeEndsSpec : ChangeSpec := { name := "lifeEnds", fn := fun _ => fun
  | [d1, d2, d3, d4] => { results := [.lit (.bool true)], args := [d1, d2, d3, d4] }
  | _ => none }
def lifeEndsRow : OpenClaim := { program := "ytfocbkdoolnijaa", sum := "7642d7808f2f8cbd6855b802eb4d459582d158da36a5a58ff3846a14f69c1b25", func := "quilter/quilterlaw16.LifeEnds", spec := "lifeEnds", unfollowed := true, recurses := true, plainKeys := false, apart := false }
def LifeEndsSaid : Prop := lifeEndsRow.holds Try.pinned (OpenSpec.ofChange lifeEndsSpec)

/-- ITS FALSE NEIGHBOUR: 'it returns false'. Refute it at one input. -/
def lifeEndsWrong : ChangeSpec := { name := "lifeEnds", fn := fun _ => fun
  | [d1, d2, d3, d4] => { results := [.lit (.bool false)], args := [d1, d2, d3, d4] }
  | _ => none }
def LifeEndsWrongFalsely : Prop := lifeEndsRow.holds Try.pinned (OpenSpec.ofChange lifeEndsWrong)

/-- 'quilterlaw16.LifeWaits': WHATEVER THE INPUT: true; the input reads as it did. -/
def lifeWaitsSpec : ChangeSpec := { name := "lifeWaits", fn := fun _ => fun
  | [d1, d2] => { results := [.lit (.bool true)], args := [d1, d2] }
  | _ => none }
def lifeWaitsRow : OpenClaim := { program := "ytfocbkdoolnijaa", sum := "7642d7808f2f8cbd6855b802eb4d459582d158da36a5a58ff3846a14f69c1b25", func := "quilter/quilterlaw16.LifeWaits", spec := "lifeWaits", unfollowed := true, recurses := true, plainKeys := false, apart := false }
def LifeWaitsSaid : Prop := lifeWaitsRow.holds Try.pinned (OpenSpec.ofChange lifeWaitsSpec)

/-- ITS FALSE NEIGHBOUR: 'it returns false'. Refute it at one input. -/
def lifeWaitsWrong : ChangeSpec := { name := "lifeWaits", fn := fun _ => fun
  | [d1, d2] => { results := [.lit (.bool false)], args := [d1, d2] }
  | _ => none }
def LifeWaitsWrongFalsely : Prop := lifeWaitsRow.holds Try.pinned (OpenSpec.ofChange lifeWaitsWrong)

/-- 'quilterlaw16.LifeRuns': WHATEVER THE INPUT: true; the input reads as it did. -/
def lifeRunsSpec : ChangeSpec := { name := "lifeRuns", fn := fun _ => fun
  | [d1, d2, d3, d4] => { results := [.lit (.bool true)], args := [d1, d2, d3, d4] }
  | _ => none }
def lifeRunsRow : OpenClaim := { program := "ytfocbkdoolnijaa", sum := "7642d7808f2f8cbd6855b802eb4d459582d158da36a5a58ff3846a14f69c1b25", func := "quilter/quilterlaw16.LifeRuns", spec := "lifeRuns", unfollowed := true, recurses := true, plainKeys := false, apart := false }
def LifeRunsSaid : Prop := lifeRunsRow.holds Try.pinned (OpenSpec.ofChange lifeRunsSpec)

/-- ITS FALSE NEIGHBOUR: 'it returns false'. Refute it at one input. -/
def lifeRunsWrong : ChangeSpec := { name := "lifeRuns", fn := fun _ => fun
  | [d1, d2, d3, d4] => { results := [.lit (.bool false)], args := [d1, d2, d3, d4] }
  | _ => none }
def LifeRunsWrongFalsely : Prop := lifeRunsRow.holds Try.pinned (OpenSpec.ofChange lifeRunsWrong)

/-- 'quilterlaw16.LifeRefused': WHATEVER THE INPUT: true; the input reads as it did. -/
def lifeRefusedSpec : ChangeSpec := { name := "lifeRefused", fn := fun _ => fun
  | [d1, d2, d3] => { results := [.lit (.bool true)], args := [d1, d2, d3] }
  | _ => none }
def lifeRefusedRow : OpenClaim := { program := "ytfocbkdoolnijaa", sum := "7642d7808f2f8cbd6855b802eb4d459582d158da36a5a58ff3846a14f69c1b25", func := "quilter/quilterlaw16.LifeRefused", spec := "lifeRefused", unfollowed := true, recurses := true, plainKeys := false, apart := false }
def LifeRefusedSaid : Prop := lifeRefusedRow.holds Try.pinned (OpenSpec.ofChange lifeRefusedSpec)

/-- ITS FALSE NEIGHBOUR: 'it returns false'. Refute it at one input. -/
def lifeRefusedWrong : ChangeSpec := { name := "lifeRefused", fn := fun _ => fun
  | [d1, d2, d3] => { results := [.lit (.bool false)], args := [d1, d2, d3] }
  | _ => none }
def LifeRefusedWrongFalsely : Prop := lifeRefusedRow.holds Try.pinned (OpenSpec.ofChange lifeRefusedWrong)

/-- 'quilterlaw16.LifeOnly': WHATEVER THE INPUT: true; the input reads as it did. -/
def lifeOnlySpec : ChangeSpec := { name := "lifeOnly", fn := fun _ => fun
  | [d1, d2, d3] => { results := [.lit (.bool true)], args := [d1, d2, d3] }
  | _ => none }
def lifeOnlyRow : OpenClaim := { program := "ytfocbkdoolnijaa", sum := "7642d7808f2f8cbd6855b802eb4d459582d158da36a5a58ff3846a14f69c1b25", func := "quilter/quilterlaw16.LifeOnly", spec := "lifeOnly", unfollowed := true, recurses := true, plainKeys := false, apart := false }
def LifeOnlySaid : Prop := lifeOnlyRow.holds Try.pinned (OpenSpec.ofChange lifeOnlySpec)

/-- ITS FALSE NEIGHBOUR: 'it returns false'. Refute it at one input. -/
def lifeOnlyWrong : ChangeSpec := { name := "lifeOnly", fn := fun _ => fun
  | [d1, d2, d3] => { results := [.lit (.bool false)], args := [d1, d2, d3] }
  | _ => none }
def LifeOnlyWrongFalsely : Prop := lifeOnlyRow.holds Try.pinned (OpenSpec.ofChange lifeOnlyWrong)

/-- 'quilterlaw16.LifeBound': WHATEVER THE INPUT: true; the input reads as it did. -/
def lifeBoundSpec : ChangeSpec := { name := "lifeBound", fn := fun _ => fun
  | [d1, d2] => { results := [.lit (.bool true)], args := [d1, d2] }
  | _ => none }
def lifeBoundRow : OpenClaim := { program := "ytfocbkdoolnijaa", sum := "7642d7808f2f8cbd6855b802eb4d459582d158da36a5a58ff3846a14f69c1b25", func := "quilter/quilterlaw16.LifeBound", spec := "lifeBound", unfollowed := true, recurses := true, plainKeys := false, apart := false }
def LifeBoundSaid : Prop := lifeBoundRow.holds Try.pinned (OpenSpec.ofChange lifeBoundSpec)

/-- ITS FALSE NEIGHBOUR: 'it returns false'. Refute it at one input. -/
def lifeBoundWrong : ChangeSpec := { name := "lifeBound", fn := fun _ => fun
  | [d1, d2] => { results := [.lit (.bool false)], args := [d1, d2] }
  | _ => none }
def LifeBoundWrongFalsely : Prop := lifeBoundRow.holds Try.pinned (OpenSpec.ofChange lifeBoundWrong)

/-- 'quilterlaw16.LifeStays': WHATEVER THE INPUT: true; the input reads as it did. -/
def lifeStaysSpec : ChangeSpec := { name := "lifeStays", fn := fun _ => fun
  | [d1, d2, d3] => { results := [.lit (.bool true)], args := [d1, d2, d3] }
  | _ => none }
def lifeStaysRow : OpenClaim := { program := "ytfocbkdoolnijaa", sum := "7642d7808f2f8cbd6855b802eb4d459582d158da36a5a58ff3846a14f69c1b25", func := "quilter/quilterlaw16.LifeStays", spec := "lifeStays", unfollowed := true, recurses := true, plainKeys := false, apart := false }
def LifeStaysSaid : Prop := lifeStaysRow.holds Try.pinned (OpenSpec.ofChange lifeStaysSpec)

/-- ITS FALSE NEIGHBOUR: 'it returns false'. Refute it at one input. -/
def lifeStaysWrong : ChangeSpec := { name := "lifeStays", fn := fun _ => fun
  | [d1, d2, d3] => { results := [.lit (.bool false)], args := [d1, d2, d3] }
  | _ => none }
def LifeStaysWrongFalsely : Prop := lifeStaysRow.holds Try.pinned (OpenSpec.ofChange lifeStaysWrong)

/- THE SECOND FORM. 'bulk': how many values and letters a reading holds, each counted each time it is reached (what is shared counts as often as it is met; a slice's spare places count too). A statement '..UptoSaid' is the law's where the arguments, and the package variables that the reading takes, are together of bulk at most 1048576: NARROWER than '..Said'. Prove '..Said' where nothing that the law and all that it calls make is longer than what came in: it says more and counts as full. Else prove '..UptoSaid'. A law counts once. -/
mutual
def uptoBulk {H : Type} : DataW H → Nat
  | .lit (.string bytes) => bytes.length + 1
  | .lit _ => 1
  | .nil => 1
  | .ptr d => uptoBulk d + 1
  | .slice elems spare => uptoBulkAll elems + uptoBulkAll spare + 1
  | .agg parts => uptoBulkAll parts + 1
  | .iface _ d => uptoBulk d + 1
  | .map entries => uptoBulkEntries entries + 1
  | .held _ => 1
def uptoBulkAll {H : Type} : List (DataW H) → Nat
  | [] => 0
  | d :: r => uptoBulk d + uptoBulkAll r
def uptoBulkEntries {H : Type} : List (Lit × DataW H) → Nat
  | [] => 0
  | x :: r => uptoBulkEntry x + uptoBulkEntries r
def uptoBulkEntry {H : Type} : Lit × DataW H → Nat
  | (.string bytes, d) => bytes.length + uptoBulk d + 1
  | (_, d) => uptoBulk d + 1
 end
def uptoSmall : (H : Type) → List (DataW H) → Bool := fun _ ds => decide (uptoBulkAll ds ≤ 1048576)
def OpenSpec.upto (s : _root_.Go.ChangeSpec) : _root_.Go.OpenSpec := { _root_.Go.OpenSpec.ofChange s with cond := some uptoSmall }

/-- 'quilterlaw16.LifeEnds', WHERE WHAT IT READS IS OF BULK AT MOST 1048576: true; the input reads as it did. -/
def lifeEndsUptoRow : OpenClaim := { program := "ytfocbkdoolnijaa", sum := "7642d7808f2f8cbd6855b802eb4d459582d158da36a5a58ff3846a14f69c1b25", func := "quilter/quilterlaw16.LifeEnds", spec := "lifeEnds", unfollowed := true, recurses := true, plainKeys := false, apart := false, narrowed := true }
def LifeEndsUptoSaid : Prop := lifeEndsUptoRow.holds Try.pinned (OpenSpec.upto lifeEndsSpec)

/-- 'quilterlaw16.LifeWaits', WHERE WHAT IT READS IS OF BULK AT MOST 1048576: true; the input reads as it did. -/
def lifeWaitsUptoRow : OpenClaim := { program := "ytfocbkdoolnijaa", sum := "7642d7808f2f8cbd6855b802eb4d459582d158da36a5a58ff3846a14f69c1b25", func := "quilter/quilterlaw16.LifeWaits", spec := "lifeWaits", unfollowed := true, recurses := true, plainKeys := false, apart := false, narrowed := true }
def LifeWaitsUptoSaid : Prop := lifeWaitsUptoRow.holds Try.pinned (OpenSpec.upto lifeWaitsSpec)

/-- 'quilterlaw16.LifeRuns', WHERE WHAT IT READS IS OF BULK AT MOST 1048576: true; the input reads as it did. -/
def lifeRunsUptoRow : OpenClaim := { program := "ytfocbkdoolnijaa", sum := "7642d7808f2f8cbd6855b802eb4d459582d158da36a5a58ff3846a14f69c1b25", func := "quilter/quilterlaw16.LifeRuns", spec := "lifeRuns", unfollowed := true, recurses := true, plainKeys := false, apart := false, narrowed := true }
def LifeRunsUptoSaid : Prop := lifeRunsUptoRow.holds Try.pinned (OpenSpec.upto lifeRunsSpec)

/-- 'quilterlaw16.LifeRefused', WHERE WHAT IT READS IS OF BULK AT MOST 1048576: true; the input reads as it did. -/
def lifeRefusedUptoRow : OpenClaim := { program := "ytfocbkdoolnijaa", sum := "7642d7808f2f8cbd6855b802eb4d459582d158da36a5a58ff3846a14f69c1b25", func := "quilter/quilterlaw16.LifeRefused", spec := "lifeRefused", unfollowed := true, recurses := true, plainKeys := false, apart := false, narrowed := true }
def LifeRefusedUptoSaid : Prop := lifeRefusedUptoRow.holds Try.pinned (OpenSpec.upto lifeRefusedSpec)

/-- 'quilterlaw16.LifeOnly', WHERE WHAT IT READS IS OF BULK AT MOST 1048576: true; the input reads as it did. -/
def lifeOnlyUptoRow : OpenClaim := { program := "ytfocbkdoolnijaa", sum := "7642d7808f2f8cbd6855b802eb4d459582d158da36a5a58ff3846a14f69c1b25", func := "quilter/quilterlaw16.LifeOnly", spec := "lifeOnly", unfollowed := true, recurses := true, plainKeys := false, apart := false, narrowed := true }
def LifeOnlyUptoSaid : Prop := lifeOnlyUptoRow.holds Try.pinned (OpenSpec.upto lifeOnlySpec)

/-- 'quilterlaw16.LifeBound', WHERE WHAT IT READS IS OF BULK AT MOST 1048576: true; the input reads as it did. -/
def lifeBoundUptoRow : OpenClaim := { program := "ytfocbkdoolnijaa", sum := "7642d7808f2f8cbd6855b802eb4d459582d158da36a5a58ff3846a14f69c1b25", func := "quilter/quilterlaw16.LifeBound", spec := "lifeBound", unfollowed := true, recurses := true, plainKeys := false, apart := false, narrowed := true }
def LifeBoundUptoSaid : Prop := lifeBoundUptoRow.holds Try.pinned (OpenSpec.upto lifeBoundSpec)

/-- 'quilterlaw16.LifeStays', WHERE WHAT IT READS IS OF BULK AT MOST 1048576: true; the input reads as it did. -/
def lifeStaysUptoRow : OpenClaim := { program := "ytfocbkdoolnijaa", sum := "7642d7808f2f8cbd6855b802eb4d459582d158da36a5a58ff3846a14f69c1b25", func := "quilter/quilterlaw16.LifeStays", spec := "lifeStays", unfollowed := true, recurses := true, plainKeys := false, apart := false, narrowed := true }
def LifeStaysUptoSaid : Prop := lifeStaysUptoRow.holds Try.pinned (OpenSpec.upto lifeStaysSpec)

end Rows
end Go.Proofs.Ytfocbkdoolnijaa

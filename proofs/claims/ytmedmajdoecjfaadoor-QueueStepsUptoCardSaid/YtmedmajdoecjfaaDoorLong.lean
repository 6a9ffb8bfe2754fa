/-
  How long a tree, changes of which there are few, are.
-/
import Derived.Test.YtmedmajdoecjfaaDoorFacts
import Derived.Test.YtmedmajdoecjfaaDoorHistS
namespace Go.Proofs.YtmedmajdoecjfaaDoor
open Go Go.Eng Go.RowKit Go.Proofs
set_option linter.unusedVariables false
set_option linter.unusedSimpArgs false
set_option maxHeartbeats 2000000

theorem dl_atL {A : Option Addr} {t : List Dl} {w : World} {G : Nat → Prop} (hrow : dlT.Row w G A t) : ∀ i (h : i < t.length), ∃ g off Ai ci, A = some ⟨g, off, none⟩ ∧ t[i].p.length ≤ 140737488355328 ∧ t[i].b.length ≤ 140737488355328 ∧ ∀ j, j < 3 → w.cell? ⟨g, off + i * 3 + j, none⟩ = [Value.int .i64 t[i].k, .string (str t[i].p), .slice Ai t[i].b.length ci][j]? := fun i h => by
  obtain ⟨g, off, xs, hA, _, hx, hc⟩ := hrow.cells h; obtain ⟨Ai, ci, rfl, _, _, h2, h3, -⟩ := dl_cells hx; exact ⟨g, off, Ai, ci, hA, h3, h2, hc⟩
end Go.Proofs.YtmedmajdoecjfaaDoor

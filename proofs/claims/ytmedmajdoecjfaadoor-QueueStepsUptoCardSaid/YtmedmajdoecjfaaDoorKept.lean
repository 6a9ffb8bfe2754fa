/-
  Rows of one's own that something else that changes does not touch; changes that may be.
-/
import Derived.Test.YtmedmajdoecjfaaDoorFacts
import Derived.Test.YtmedmajdoecjfaaDoorRefY
import Derived.Test.YtmedmajdoecjfaaDoorGenB
namespace Go.Proofs.YtmedmajdoecjfaaDoor
open Go Go.Eng Go.RowKit Go.Proofs
set_option linter.unusedVariables false
set_option linter.unusedSimpArgs false
set_option maxHeartbeats 1000000

def Kept {α : Type} (T : Ty α) (el : TypeId) (Z : Nat → Prop) (w : World) (B : Nat) (v : Value) (l : List α) : Prop :=
  ∃ F, Eng.Own T w F B el v l ∧ (∀ b, F b → b < w.heap.size ∧ ¬ Z b ∧ v.ownBlock ≠ some b) ∧ ∀ b, v.ownBlock = some b → ¬ Z b
section
variable {α : Type} {T : Ty α} {el : TypeId} {Z : Nat → Prop} {w w' : World} {B : Nat} {v : Value} {l : List α}
end
section
variable {α : Type} {T : Ty α} {P : Program} {w w0 : World} {n : Nat} {N : Env → World → Prop} {X : Exit → Env → World → Prop} {e : Env} {ops : Array Oper} {rest : List Oper} {d : Option Tmp} {ty : TypeId} {pos : String} {af : Array Edge}
end
theorem right_path_len {s : List UInt8} (h : rightP s) : s.length ≤ 1099511627776 := by
  have := h.2; omega
theorem tree_paths {t : Tree} (h : rightT t) : ∀ x ∈ t, x.p.length ≤ 1099511627776 := fun x hx => by
  obtain ⟨i, hi, rfl⟩ := List.mem_iff_getElem.1 hx; exact right_path_len (h.2.1 i hi).1
end Go.Proofs.YtmedmajdoecjfaaDoor

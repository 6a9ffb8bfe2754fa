/-
  Numbers of one's own in a row that begins anywhere in its block: append, cut off ahead, read. Generic: no program.
-/
import Derived.Test.YtmedmajdoecjfaaDoorGenA
namespace Go.Eng
set_option linter.unusedVariables false
set_option linter.unusedSimpArgs false
open Go.RowKit

def IntO (w : World) (B : Nat) (e : TypeId) (v : Value) (l : List Int) : Prop :=
  (∀ x ∈ l, inK .i64 x) ∧ ((v = .slice none 0 0 ∧ l = []) ∨ ∃ g o cap c, v = .slice (some ⟨g, o, none⟩) l.length cap ∧ B ≤ g ∧ Blk w g c e ∧ l.length ≤ cap ∧ o + cap ≤ c.size ∧ ∀ i (h : i < l.length), c[o + i]? = some (.int .i64 l[i]))
section
variable {P : Program} {w : World}
variable {n : Nat} {N : Env → World → Prop} {X : Exit → Env → World → Prop} {e : Env} {ops : Array Oper} {rest : List Oper} {d : Option Tmp} {ty : TypeId} {pos : String} {af : Array Edge}
end
end Go.Eng

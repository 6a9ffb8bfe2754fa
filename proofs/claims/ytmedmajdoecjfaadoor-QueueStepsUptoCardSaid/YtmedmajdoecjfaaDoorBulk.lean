/-
  What the second form's bound gives.
-/
import Derived.Test.YtmedmajdoecjfaaDoorRows
import Derived.Test.YtmedmajdoecjfaaDoorGenB
namespace Go.Proofs.YtmedmajdoecjfaaDoor
open Go Go.Eng
theorem bulk_all {H : Type} : ∀ l : List (DataW H), Rows.uptoBulkAll l = (l.map Rows.uptoBulk).sum
  | [] => by simp [Rows.uptoBulkAll]
  | d :: l => by simp [Rows.uptoBulkAll, bulk_all l]
theorem bulk_ok {H : Type} : Bulk (H := H) Rows.uptoBulk where
  lit := fun l => by cases l <;> simp [Rows.uptoBulk]
  str := fun b => by simp [Rows.uptoBulk]
  nil := by simp [Rows.uptoBulk]
  slice := fun es sp => by simp only [Rows.uptoBulk, bulk_all]; omega
  agg := fun ps => by simp only [Rows.uptoBulk, bulk_all]; omega
theorem bulk_part {H : Type} {d : DataW H} : ∀ {l : List (DataW H)}, d ∈ l → Rows.uptoBulk d ≤ Rows.uptoBulkAll l
  | x :: l, h => by
    simp only [Rows.uptoBulkAll]
    rcases List.mem_cons.1 h with rfl | h
    · omega
    · have := bulk_part h; omega
theorem Bulk.small {H : Type} {l : List (DataW H)} {d : DataW H} {m : Nat} (hk : Rows.uptoSmall H l = true) (hz : ∀ β : DataW H → Nat, Bulk β → m ≤ β d) (hd : d ∈ l) : m ≤ 1048576 := by
  have h1 : Rows.uptoBulkAll l ≤ 1048576 := of_decide_eq_true hk; have h2 := hz _ bulk_ok; have h3 := bulk_part hd
  omega
end Go.Proofs.YtmedmajdoecjfaaDoor

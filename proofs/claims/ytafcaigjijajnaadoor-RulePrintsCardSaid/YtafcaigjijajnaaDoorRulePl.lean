/-
  What the laws on rules' texts need, plain.
-/
import Derived.Test.YtafcaigjijajnaaDoorFacts
import Derived.Test.YtafcaigjijajnaaDoorRuleGl
namespace Go.Proofs.YtafcaigjijajnaaDoor
open Go Go.Eng Go.RowKit Go.Proofs
set_option linter.unusedVariables false
set_option linter.unusedSimpArgs false
set_option maxRecDepth 20000

theorem text_cons (r : Ru) (l : List Ru) : textR (r :: l) = lineR r ++ 10 :: textR l := by unfold textR; simp
theorem text_app (a b : List Ru) : textR (a ++ b) = textR a ++ textR b := by unfold textR; simp
theorem text_parts {l : List Ru} (h : ∀ r ∈ l, ruR r) (t : List UInt8) : parts 10 (textR l ++ t) = l.map lineR ++ parts 10 t := by
  induction l with
  | nil => rfl
  | cons r l ih =>
    rw [text_cons, List.append_assoc, List.cons_append, parts_app (line_feed (h r List.mem_cons_self)), ih (fun x hx => h x (List.mem_cons_of_mem _ hx))]
    rfl
theorem print_ok {l : List Ru} (h : (printR l).2 = 0) : (∀ r ∈ l, ruR r) ∧ l.length ≤ 50 ∧ printR l = (textR l, 0) := by
  unfold printR at h ⊢
  split
  · rename_i hr
    rw [if_pos hr] at h
    split
    · rename_i hl; rw [if_pos hl] at h; cases h
    · rename_i hl; exact ⟨hr, by omega, rfl⟩
  · rename_i hr; rw [if_neg hr] at h; cases h
theorem len_mem {l : List Ru} {r : Ru} (h : r ∈ l) : lenRu r ≤ (l.map lenRu).sum := by
  induction l with
  | nil => cases h
  | cons x l ih =>
    rw [List.map_cons, List.sum_cons]
    rcases List.mem_cons.1 h with rfl | h
    · omega
    · have := ih h; omega
theorem len_each {l : List Ru} {n : Nat} (h : (l.map lenRu).sum ≤ n) (hn : n ≤ 1099511627776) : ∀ r ∈ l, r.g.length ≤ 1099511627776 ∧ r.o.length ≤ 1099511627776 ∧ r.n.length ≤ 1099511627776 := fun r hr => by
  have h1 := len_mem hr
  have h2 : lenRu r = 1 + r.g.length + r.o.length + r.n.length := rfl
  omega
theorem len_take {l : List Ru} {n : Nat} (k : Nat) (h : (l.map lenRu).sum ≤ n) : ((l.take k).map lenRu).sum ≤ n ∧ ((l.drop k).map lenRu).sum ≤ n := by
  have e : (l.map lenRu).sum = ((l.take k).map lenRu).sum + ((l.drop k).map lenRu).sum := by rw [← List.sum_append, ← List.map_append, List.take_append_drop]
  omega
theorem text_ok {a b : List Ru} (ha : ∀ r ∈ a, ruR r) (hb : ∀ r ∈ b, ruR r) : linesR (parts 10 (textR a ++ textR b)) = some (a ++ b) := by
  rw [← text_app]
  exact parse_text (fun r h => (List.mem_append.1 h).elim (ha r) (hb r))
end Go.Proofs.YtafcaigjijajnaaDoor

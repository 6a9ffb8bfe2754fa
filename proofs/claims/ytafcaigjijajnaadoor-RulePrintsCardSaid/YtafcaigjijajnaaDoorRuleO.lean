/-
  The walks of the reference: rules' text.
-/
import Derived.Test.YtafcaigjijajnaaDoorFacts
import Derived.Test.YtafcaigjijajnaaDoorRuleN
namespace Go.Proofs.YtafcaigjijajnaaDoor
open Go Go.Eng Go.RowKit Go.Proofs
set_option linter.unusedVariables false
set_option linter.unusedSimpArgs false
set_option maxHeartbeats 1000000
set_option maxRecDepth 20000

theorem line_eq (r : Ru) : lineR r = ((wordK r.k ++ [32]) ++ r.g) ++ ((if 0 < textsK r.k then [32] ++ quoteB r.o else []) ++ (if 1 < textsK r.k then [32] ++ quoteB r.n else [])) := by
  unfold lineR wordsR
  have : textsK r.k = 0 ∨ textsK r.k = 1 ∨ textsK r.k = 2 := by unfold textsK; split <;> (try split) <;> (try split) <;> (try split) <;> simp
  rcases this with h | h | h <;> rw [h] <;> simp [joinB]
theorem word_len (k : Int) : (wordK k).length ≤ 7 := by unfold wordK; split <;> (try split) <;> (try split) <;> (try split) <;> (try split) <;> simp
theorem line_len {r : Ru} (h : ruR r) : (lineR r).length ≤ 720 := by
  rw [line_eq]
  have h1 := word_len r.k
  have h2 := h.1.2
  have h3 := quote_len r.o
  have h4 := quote_len r.n
  have h5 := h.2.1
  have h6 := h.2.2.1
  simp only [List.length_append, List.length_singleton]
  split <;> split <;> simp only [List.length_append, List.length_singleton, List.length_nil] <;> omega
theorem text_len {l : List Ru} (h : ∀ r ∈ l, ruR r) : (textR l).length ≤ l.length * 721 := by
  induction l with
  | nil => simp [textR]
  | cons r l ih =>
    have e : textR (r :: l) = lineR r ++ 10 :: textR l := by unfold textR; simp
    have h1 := line_len (h r List.mem_cons_self)
    have h2 := ih (fun x hx => h x (List.mem_cons_of_mem _ hx))
    rw [e]
    simp only [List.length_append, List.length_cons]; omega
theorem text_take {l : List Ru} {i : Nat} (h : i < l.length) : textR (l.take (i + 1)) = textR (l.take i) ++ (lineR l[i] ++ [10]) := by
  unfold textR
  rw [List.take_succ_eq_append_getElem h, List.flatMap_append, List.flatMap_cons, List.flatMap_nil, List.append_nil]
end Go.Proofs.YtafcaigjijajnaaDoor

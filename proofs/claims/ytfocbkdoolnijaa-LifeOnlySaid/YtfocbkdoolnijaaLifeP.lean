/-
  What Step and Run do, in plain Lean.
-/
import Derived.Test.YtfocbkdoolnijaaLifeR
namespace Go.Proofs.Ytfocbkdoolnijaa
open Go Go.Eng
set_option linter.unusedVariables false
set_option linter.unusedSimpArgs false

def Lf.l (x : Lf) : List Int := [x.state, x.why, x.tries, x.wait, x.request, x.rev]
theorem run_append (m : Lim) : ∀ (a b : List (Int × Int)) (x : Lf) (c : Int), Lf.run m x c (a ++ b) = Lf.run m (Lf.run m x c a).1 (Lf.run m x c a).2 b
  | [], b, x, c => rfl
  | e :: a, b, x, c => by
    by_cases h : x.Ended
    · rw [run_ended h, run_ended h, run_ended h]
    · simp only [List.cons_append, Lf.run, h, if_false]
      exact run_append m a b _ _
theorem run_shift (m : Lim) : ∀ (l : List (Int × Int)) (x : Lf) (c : Int), Lf.run m x c l = ((Lf.run m x 0 l).1, c + (Lf.run m x 0 l).2)
  | [], x, c => by simp [Lf.run]
  | e :: l, x, c => by
    by_cases h : x.Ended
    · rw [run_ended h, run_ended h]; simp
    · simp only [Lf.run, h, if_false]
      rw [run_shift m l _ (if x.is e.1 = true then c + 1 else c), run_shift m l _ (if x.is e.1 = true then 0 + 1 else 0)]
      split
      · simp only [Prod.mk.injEq, true_and]; omega
      · simp
theorem run_count (m : Lim) : ∀ (l : List (Int × Int)) (x : Lf) (c : Int), c ≤ (Lf.run m x c l).2 ∧ (Lf.run m x c l).2 ≤ c + l.length
  | [], x, c => by simp [Lf.run]
  | e :: l, x, c => by
    by_cases h : x.Ended
    · rw [run_ended h]; simp; omega
    · simp only [Lf.run, h, if_false, List.length_cons]
      split
      · have := run_count m l (x.step m e.1 e.2) (c + 1); omega
      · have := run_count m l (x.step m e.1 e.2) c; omega
theorem find_99 (x : Lf) : x.find 99 = none := by simp [Lf.find, dT, Kd.find]
theorem run_99 (m : Lim) (x : Lf) (c n : Int) (l : List (Int × Int)) : Lf.run m x c ((99, n) :: l) = Lf.run m x c l := by
  by_cases h : x.Ended
  · rw [run_ended h, run_ended h]
  · have h1 : x.is 99 = false := by unfold Lf.is; rw [find_99]; rfl
    have h2 : x.step m 99 n = x := by unfold Lf.step; rw [find_99]
    simp only [Lf.run, h, if_false, h1, h2]
    rfl
theorem run_all (m : Lim) (x : Lf) (a b : List (Int × Int)) : Lf.run m x 0 (a ++ [(99, 0)] ++ b) = ((Lf.run m (Lf.run m x 0 a).1 0 b).1, (Lf.run m x 0 a).2 + (Lf.run m (Lf.run m x 0 a).1 0 b).2) := by
  rw [List.append_assoc, run_append, List.singleton_append, run_99, run_shift]
end Go.Proofs.Ytfocbkdoolnijaa

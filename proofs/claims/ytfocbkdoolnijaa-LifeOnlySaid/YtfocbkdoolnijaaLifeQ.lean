/-
  What may be may be behind whatever happens: plain Lean.
-/
import Derived.Test.YtfocbkdoolnijaaLifeG
namespace Go.Proofs.Ytfocbkdoolnijaa
open Go Go.Eng
set_option linter.unusedVariables false
set_option linter.unusedSimpArgs false

/-- Which Events there are. -/
def Takes (s k : Int) (D : Do) : Prop := (s = 0 ∧ k = 1 ∧ D = .to 1) ∨ (s = 0 ∧ k = 2 ∧ D = .given 4) ∨ (s = 1 ∧ k = 3 ∧ D = .made) ∨ (s = 1 ∧ k = 4 ∧ D = .done) ∨ (s = 1 ∧ k = 5 ∧ D = .given 5) ∨ (s = 2 ∧ k = 6 ∧ D = .to 3) ∨ (s = 2 ∧ k = 7 ∧ D = .given 1) ∨
  (s = 2 ∧ k = 8 ∧ D = .tickGiven 2) ∨ (s = 3 ∧ k = 9 ∧ D = .sent) ∨ (s = 4 ∧ k = 10 ∧ D = .done) ∨ (s = 4 ∧ k = 5 ∧ D = .given 5) ∨ (s = 4 ∧ k = 11 ∧ D = .again) ∨ (s = 4 ∧ k = 12 ∧ D = .again) ∨ (s = 5 ∧ k = 8 ∧ D = .tickTo 1)
theorem find_ins {T : List (Kd Do)} {xs ks : List Int} {D : Do} : Kd.find (.ins ks D :: T) xs = if ks = xs then some D else Kd.find T xs := rfl
theorem find_takes {x : Lf} {k : Int} {D : Do} (h : x.find k = some D) : Takes x.state k D := by
  obtain ⟨i, hi⟩ := find_some h
  have hlt : i < dT.length := (List.getElem?_eq_some_iff.1 hi).1
  have hlt' : i < 41 := hlt
  unfold Takes
  have hall : ∀ kd ∈ dT, ∀ s k D, kd = .ins [s, k] D → (s = 0 ∧ k = 1 ∧ D = .to 1) ∨ (s = 0 ∧ k = 2 ∧ D = .given 4) ∨ (s = 1 ∧ k = 3 ∧ D = .made) ∨ (s = 1 ∧ k = 4 ∧ D = .done) ∨ (s = 1 ∧ k = 5 ∧ D = .given 5) ∨ (s = 2 ∧ k = 6 ∧ D = .to 3) ∨ (s = 2 ∧ k = 7 ∧ D = .given 1) ∨
      (s = 2 ∧ k = 8 ∧ D = .tickGiven 2) ∨ (s = 3 ∧ k = 9 ∧ D = .sent) ∨ (s = 4 ∧ k = 10 ∧ D = .done) ∨ (s = 4 ∧ k = 5 ∧ D = .given 5) ∨ (s = 4 ∧ k = 11 ∧ D = .again) ∨ (s = 4 ∧ k = 12 ∧ D = .again) ∨ (s = 5 ∧ k = 8 ∧ D = .tickTo 1) := by
    intro kd hkd s k D hq
    subst hq
    simp only [dT, List.mem_cons, List.not_mem_nil, or_false, reduceCtorEq, false_or, Kd.ins.injEq, List.cons.injEq, and_true] at hkd
    rcases hkd with h | h | h | h | h | h | h | h | h | h | h | h | h | h <;> obtain ⟨⟨rfl, rfl⟩, rfl⟩ := h <;> simp
  exact hall _ (List.mem_of_getElem? hi) _ _ _ rfl
theorem takes_find {x : Lf} {k : Int} {D : Do} (h : Takes x.state k D) : x.find k = some D := by
  unfold Takes at h
  unfold Lf.find
  rcases h with ⟨h1, rfl, rfl⟩ | ⟨h1, rfl, rfl⟩ | ⟨h1, rfl, rfl⟩ | ⟨h1, rfl, rfl⟩ | ⟨h1, rfl, rfl⟩ | ⟨h1, rfl, rfl⟩ | ⟨h1, rfl, rfl⟩ | ⟨h1, rfl, rfl⟩ | ⟨h1, rfl, rfl⟩ | ⟨h1, rfl, rfl⟩ | ⟨h1, rfl, rfl⟩ | ⟨h1, rfl, rfl⟩ | ⟨h1, rfl, rfl⟩ | ⟨h1, rfl, rfl⟩ <;> rw [h1] <;> rfl
theorem is_iff {x : Lf} {k : Int} : x.is k = true ↔ ∃ D, Takes x.state k D := by
  unfold Lf.is
  constructor
  · intro h
    cases hf : x.find k with
    | none => rw [hf] at h; cases h
    | some D => exact ⟨D, find_takes hf⟩
  · rintro ⟨D, h⟩
    rw [takes_find h]; rfl
theorem step_no {x : Lf} {m : Lim} {k n : Int} (h : ¬ x.is k = true) : x.step m k n = x := by
  unfold Lf.is at h
  unfold Lf.step
  cases hf : x.find k with
  | none => rfl
  | some D => rw [hf] at h; exact absurd rfl h
theorem ended_no {x : Lf} {k : Int} (h : x.state = 6 ∨ x.state = 7) : ¬ x.is k = true := by
  rw [is_iff]
  rintro ⟨D, hD⟩
  unfold Takes at hD
  omega
theorem pause_bd (m : Lim) (t : Int) (hm : m.May) : 0 ≤ m.pause t ∧ m.pause t ≤ m.backoff := by
  unfold Lim.May at hm
  unfold Lim.pause
  have := Nat.one_le_two_pow (n := pw t)
  omega
theorem right_step {x : Lf} {m : Lim} {k n : Int} (hR : x.Right m) (hn : 1 ≤ n) : (x.step m k n).Right m ∧ x.tries ≤ (x.step m k n).tries := by
  cases hf : x.find k with
  | none =>
    have : x.step m k n = x := by unfold Lf.step; rw [hf]
    rw [this]; exact ⟨hR, Int.le_refl _⟩
  | some D =>
    have hs : x.step m k n = D.run m x n := by unfold Lf.step; rw [hf]
    rw [hs]
    have ht := find_takes hf
    have hm := hR.1
    have hm' := hm
    unfold Lim.May at hm'
    have hinc : x.tries ≤ m.retries + 1 → 0 ≤ x.tries → inc x.tries = x.tries + 1 := fun h1 h2 => wrap_i64 (by omega) (by omega)
    have hdec : -1000 ≤ x.wait → x.wait ≤ 1073741824 → dec x.wait = x.wait - 1 := fun h1 h2 => wrap_i64 (by omega) (by omega)
    unfold Lf.Right at hR ⊢
    unfold Takes at ht
    rcases ht with ⟨h1, rfl, rfl⟩ | ⟨h1, rfl, rfl⟩ | ⟨h1, rfl, rfl⟩ | ⟨h1, rfl, rfl⟩ | ⟨h1, rfl, rfl⟩ | ⟨h1, rfl, rfl⟩ | ⟨h1, rfl, rfl⟩ | ⟨h1, rfl, rfl⟩ | ⟨h1, rfl, rfl⟩ | ⟨h1, rfl, rfl⟩ | ⟨h1, rfl, rfl⟩ | ⟨h1, rfl, rfl⟩ | ⟨h1, rfl, rfl⟩ | ⟨h1, rfl, rfl⟩ <;> rw [h1] at hR <;> simp only [Lf.least, Lim.most] at hR
    case inr.inr.inr.inr.inr.inr.inr.inl =>
      have hd := hdec (by simp at hR; omega) (by simp at hR; omega)
      simp only [Do.run, Lf.tick, hd]
      split
      · simp [Lf.least, Lim.most, h1, hm]; simp at hR; omega
      · simp [Lf.given, Lf.to, Lf.least, Lim.most, hm]; simp at hR; omega
    case inr.inr.inr.inr.inr.inr.inr.inr.inr.inr.inr.inr.inr =>
      have hd := hdec (by simp at hR; omega) (by simp at hR; omega)
      simp only [Do.run, Lf.tick, hd]
      split
      · simp [Lf.least, Lim.most, h1, hm]; simp at hR; omega
      · simp [Lf.to, Lf.least, Lim.most, hm]; simp at hR; omega
    all_goals first
      | (simp [Do.run, Lf.to, Lf.given, Lf.made, Lf.done, Lf.sent, Lf.least, Lim.most, hm]; simp at hR; omega)
      | (have hi := hinc (by simp at hR; omega) (by simp at hR; omega)
         have hp := pause_bd m (x.tries + 1) hm
         simp only [Do.run, Lf.again, hi]
         split
         · simp [Lf.given, Lf.to, Lf.least, Lim.most, hm]; simp at hR; omega
         · split
           · simp [Lf.to, Lf.least, Lim.most, hm]; simp at hR; omega
           · simp [Lf.to, Lf.least, Lim.most, hm]; simp at hR; omega)
end Go.Proofs.Ytfocbkdoolnijaa

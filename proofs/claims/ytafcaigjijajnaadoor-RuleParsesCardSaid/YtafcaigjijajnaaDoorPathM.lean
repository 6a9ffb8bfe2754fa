/-
  Paths, plain.
-/
import Derived.Test.YtafcaigjijajnaaDoorGenB
import Derived.Lib.Bytealg
namespace Go.Proofs.YtafcaigjijajnaaDoor
open Go Go.Eng
set_option linter.unusedVariables false
set_option linter.unusedSimpArgs false

def plainC (c : UInt8) : Prop := (97 ≤ c.toNat ∧ c.toNat ≤ 122) ∨ (65 ≤ c.toNat ∧ c.toNat ≤ 90) ∨ (48 ≤ c.toNat ∧ c.toNat ≤ 57) ∨ c.toNat = 46 ∨ c.toNat = 95 ∨ c.toNat = 45
instance (c : UInt8) : Decidable (plainC c) := by unfold plainC; exact inferInstance
def nameR (p : List UInt8) : Prop := (∀ c ∈ p, plainC c) ∧ p ≠ [] ∧ p.length ≤ 30 ∧ p ≠ [46] ∧ p ≠ [46, 46]
instance (p : List UInt8) : Decidable (nameR p) := by unfold nameR; exact inferInstance
/-- The pieces between signs. -/
def parts (c : UInt8) : List UInt8 → List (List UInt8)
  | [] => [[]]
  | x :: l => if x = c then [] :: parts c l else match parts c l with
    | p :: r => (x :: p) :: r
    | [] => [[x]]
theorem parts_ne (c : UInt8) : ∀ l, parts c l ≠ []
  | [] => by simp [parts]
  | x :: l => by
    unfold parts
    split
    · simp
    · split <;> simp
theorem parts_index (c : UInt8) : ∀ l : List UInt8, (Lib.indexByte l c = -1 ∧ parts c l = [l] ∧ c ∉ l) ∨ (∃ i : Nat, Lib.indexByte l c = i ∧ i < l.length ∧ parts c l = l.take i :: parts c (l.drop (i + 1)) ∧ c ∉ l.take i ∧ l[i]? = some c)
  | [] => Or.inl ⟨rfl, rfl, by simp⟩
  | x :: l => by
    by_cases h : x = c
    · subst h
      exact Or.inr ⟨0, by simp [Lib.indexByte], by simp, by simp [parts], by simp, rfl⟩
    · have hb : (x == c) = false := by simpa using h
      rcases parts_index c l with ⟨h1, h2, h3⟩ | ⟨i, h1, h2, h3, h4, h5⟩
      · exact Or.inl ⟨by simp [Lib.indexByte, hb, h1], by simp [parts, h, h2], by simp [h3]; exact fun q => h q.symm⟩
      · refine Or.inr ⟨i + 1, ?_, by simp; omega, by simp [parts, h, h3], by simp [h4]; exact fun q => h q.symm, by simpa using h5⟩
        have hne : ((i : Int) == -1) = false := by rw [beq_eq_false_iff_ne]; omega
        simp [Lib.indexByte, hb, h1, hne]
theorem parts_len (c : UInt8) : ∀ (l p : List UInt8), p ∈ parts c l → p.length ≤ l.length
  | [], p, h => by
    have : p = [] := by simpa [parts] using h
    simp [this]
  | x :: l, p, h => by
    have ih := parts_len c l
    unfold parts at h
    split at h
    · rcases List.mem_cons.1 h with rfl | h
      · simp
      · have := ih p h; simp only [List.length_cons]; omega
    · split at h
      · rename_i q r hq
        rcases List.mem_cons.1 h with rfl | h
        · have := ih q (by rw [hq]; simp); simp only [List.length_cons]; omega
        · have := ih p (by rw [hq]; simp [h]); simp only [List.length_cons]; omega
      · have : p = [x] := by simpa using h
        rw [this]; simp
def rightP (s : List UInt8) : Prop := (∀ p ∈ parts 47 s, nameR p) ∧ s.length ≤ 100
instance (s : List UInt8) : Decidable (rightP s) := by unfold rightP; exact inferInstance
/-- The last sign's place. -/
def lastIx (c : UInt8) : List UInt8 → Option Nat
  | [] => none
  | x :: l => match lastIx c l with
    | some i => some (i + 1)
    | none => if x = c then some 0 else none
def lastI (c : UInt8) (l : List UInt8) : Int := match lastIx c l with
  | some i => (i : Int)
  | none => -1
def dirP (s : List UInt8) : List UInt8 := match lastIx 47 s with
  | some i => s.take i
  | none => []
theorem lastIx_snoc (c : UInt8) (x : UInt8) : ∀ l : List UInt8, lastIx c (l ++ [x]) = if x = c then some l.length else lastIx c l
  | [] => by simp [lastIx]
  | y :: l => by
    simp only [List.cons_append, lastIx, lastIx_snoc c x l]
    by_cases h : x = c
    · simp [h]
    · simp [h]
theorem lastIx_lt {c : UInt8} : ∀ {l : List UInt8} {i : Nat}, lastIx c l = some i → i < l.length
  | [], _, h => by cases h
  | x :: l, i, h => by
    unfold lastIx at h
    split at h
    · rename_i j hj
      have := lastIx_lt hj
      cases h
      simp; omega
    · split at h
      · cases h; simp
      · cases h
theorem dir_le (s : List UInt8) : (dirP s).length ≤ s.length := by
  unfold dirP
  split
  · simp; omega
  · simp
theorem dir_lt {s : List UInt8} (h : s ≠ []) : (dirP s).length < s.length := by
  unfold dirP
  split
  · rename_i i hi
    have := lastIx_lt hi
    simp; omega
  · cases s with
    | nil => exact absurd rfl h
    | cons x l => simp
end Go.Proofs.YtafcaigjijajnaaDoor

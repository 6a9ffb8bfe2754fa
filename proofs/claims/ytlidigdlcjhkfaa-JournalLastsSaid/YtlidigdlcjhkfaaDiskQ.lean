/-
  A disk, plain: what holds of all that may come.
-/
import Derived.Test.YtlidigdlcjhkfaaDiskM
namespace Go.Proofs.Ytlidigdlcjhkfaa
open Go Go.Eng
set_option linter.unusedVariables false
set_option linter.unusedSimpArgs false

def St.ok : St → List UInt8 → Prop
  | .grow _, _ => True
  | .cut n, b => n ≤ b.length
def Valid : List UInt8 → List St → Prop
  | _, [] => True
  | b, s :: l => s.ok b ∧ Valid (s.run b) l
theorem valid_snoc : ∀ {l : List St} {b : List UInt8} {s : St}, Valid b l → s.ok (runs l b) → Valid b (l ++ [s])
  | [], b, s, _, h => ⟨h, trivial⟩
  | t :: l, b, s, ⟨h1, h2⟩, h => ⟨h1, valid_snoc h2 h⟩
theorem runs_snoc (l : List St) (b : List UInt8) (s : St) : runs (l ++ [s]) b = s.run (runs l b) := by simp [runs]
theorem run_len (s : St) (b : List UInt8) : (s.run b).length ≤ b.length + 1 := by cases s <;> simp [St.run]; omega
theorem runs_len : ∀ (l : List St) (b : List UInt8), (runs l b).length ≤ b.length + l.length
  | [], b => by simp [runs]
  | s :: l, b => by
    have h1 := run_len s b
    have h2 := runs_len l (s.run b)
    show (runs l (s.run b)).length ≤ _
    simp only [List.length_cons]; omega
theorem valid_ok : ∀ {l : List St} {b : List UInt8} {j : Nat} (h : Valid b l) (hj : j < l.length), l[j].ok (runs (l.take j) b)
  | s :: l, b, 0, ⟨h1, _⟩, _ => h1
  | s :: l, b, j + 1, ⟨_, h2⟩, hj => by
    have := valid_ok (j := j) h2 (by simpa using hj)
    simpa [runs] using this
structure WF (D : Dk) (k : Nat) : Prop where
  n8 : D.n ≤ 8
  room : D.room ≤ 4194304
  p1 : -(k : Int) ≤ D.power
  p2 : D.power ≤ 1000000000
  len : ∀ i, i < D.n → (D.ar i).now.length ≤ k ∧ (D.ar i).lasts.length + (D.ar i).pend.length ≤ k
  val : ∀ i, i < D.n → Valid (D.ar i).lasts (D.ar i).pend
  now : ∀ i, i < D.n → runs (D.ar i).pend (D.ar i).lasts = (D.ar i).now
theorem WF.mono {D : Dk} {k m : Nat} (h : WF D k) (hm : k ≤ m) : WF D m :=
  ⟨h.n8, h.room, by have := h.p1; omega, h.p2, fun i hi => by have := h.len i hi; omega, h.val, h.now⟩
theorem unit_n (D : Dk) : D.unit.1.n = D.n := by unfold Dk.unit; split <;> rfl
theorem unit_ar (D : Dk) : D.unit.1.ar = D.ar := by unfold Dk.unit; split <;> rfl
theorem unit_room (D : Dk) : D.unit.1.room = D.room := by unfold Dk.unit; split <;> rfl
theorem WF.unit {D : Dk} {k : Nat} (h : WF D k) : WF D.unit.1 (k + 1) := by
  refine ⟨by rw [unit_n]; exact h.n8, by rw [unit_room]; exact h.room, ?_, ?_, fun i hi => ?_, fun i hi => ?_, fun i hi => ?_⟩
  · have := h.p1; unfold Dk.unit; split <;> simp <;> omega
  · have := h.p2; unfold Dk.unit; split <;> simp <;> omega
  · rw [unit_n] at hi; rw [unit_ar]; have := h.len i hi; omega
  · rw [unit_n] at hi; rw [unit_ar]; exact h.val i hi
  · rw [unit_n] at hi; rw [unit_ar]; exact h.now i hi
theorem put_n (D : Dk) (a : Nat) (s : St) : (D.put a s).n = D.n := rfl
theorem WF.put {D : Dk} {k a : Nat} {s : St} (h : WF D k) (ha : a < D.n) (hs : s.ok (D.ar a).now) : WF (D.put a s) (k + 1) := by
  refine ⟨h.n8, h.room, ?_, h.p2, fun i hi => ?_, fun i hi => ?_, fun i hi => ?_⟩
  · have := h.p1; show -((k + 1 : Nat) : Int) ≤ D.power; omega
  · by_cases hia : i = a
    · subst hia
      unfold Dk.put; rw [upd_same]
      have := h.len i hi; have := run_len s (D.ar i).now
      simp only [List.length_append, List.length_singleton]; omega
    · unfold Dk.put; rw [upd_ne hia]; have := h.len i hi; omega
  · by_cases hia : i = a
    · subst hia
      unfold Dk.put; rw [upd_same]
      exact valid_snoc (h.val i hi) (by rw [h.now i hi]; exact hs)
    · unfold Dk.put; rw [upd_ne hia]; exact h.val i hi
  · by_cases hia : i = a
    · subst hia
      unfold Dk.put; rw [upd_same]
      show runs _ _ = _
      rw [runs_snoc, h.now i hi]
    · unfold Dk.put; rw [upd_ne hia]; exact h.now i hi
theorem WF.synced {D : Dk} {k a : Nat} (h : WF D k) : WF (D.synced a) k := by
  refine ⟨h.n8, h.room, h.p1, h.p2, fun i hi => ?_, fun i hi => ?_, fun i hi => ?_⟩
  · have := h.len i hi
    by_cases hia : i = a
    · subst hia; unfold Dk.synced; rw [upd_same]; simp; omega
    · unfold Dk.synced; rw [upd_ne hia]; omega
  · by_cases hia : i = a
    · subst hia; unfold Dk.synced; rw [upd_same]; trivial
    · unfold Dk.synced; rw [upd_ne hia]; exact h.val i hi
  · by_cases hia : i = a
    · subst hia; unfold Dk.synced; rw [upd_same]; rfl
    · unfold Dk.synced; rw [upd_ne hia]; exact h.now i hi
theorem grow_n : ∀ (l : List UInt8) (D : Dk) (a : Nat), (D.grow a l).n = D.n
  | [], D, a => rfl
  | c :: l, D, a => by
    unfold Dk.grow
    split
    · rw [grow_n l, put_n, unit_n]
    · exact unit_n D
theorem WF.grow : ∀ {l : List UInt8} {D : Dk} {k a : Nat}, WF D k → a < D.n → WF (D.grow a l) (k + 2 * l.length)
  | [], D, k, a, h, _ => h
  | c :: l, D, k, a, h, ha => by
    unfold Dk.grow
    split
    · have h1 := (h.unit.put (s := .grow c) (a := a) (by rw [unit_n]; exact ha) trivial)
      have := WF.grow (l := l) h1 (by rw [put_n, unit_n]; exact ha)
      exact this.mono (by simp only [List.length_cons]; omega)
    · exact h.unit.mono (by simp only [List.length_cons]; omega)
theorem sumTo_mono (f : Nat → Nat) : ∀ {i n : Nat}, i ≤ n → sumTo i f ≤ sumTo n f
  | i, 0, h => by have : i = 0 := by omega
                  subst this; exact Nat.le_refl _
  | i, n + 1, h => by
    by_cases hi : i = n + 1
    · subst hi; exact Nat.le_refl _
    · have := sumTo_mono f (i := i) (n := n) (by omega)
      simp only [sumTo]; omega
theorem sumTo_le {f : Nat → Nat} {k : Nat} : ∀ {n : Nat}, (∀ i, i < n → f i ≤ k) → sumTo n f ≤ n * k
  | 0, _ => by simp [sumTo]
  | n + 1, h => by
    have h1 := sumTo_le (n := n) (fun i hi => h i (by omega))
    have h2 := h n (by omega)
    simp only [sumTo, Nat.add_mul, Nat.one_mul]; omega
theorem WF.used {D : Dk} {k : Nat} (h : WF D k) : D.used ≤ 8 * k := by
  have h1 : D.used ≤ D.n * k := sumTo_le (fun i hi => (h.len i hi).1)
  have h2 := Nat.mul_le_mul_right k h.n8
  omega
theorem there_nat {D : Dk} {a : Int} (h : D.there a) : ((a.toNat : Nat) : Int) = a ∧ a.toNat < D.n := by unfold Dk.there at h; omega
theorem WF.new (areas room : Int) : WF (Dk.new areas room) 0 := by
  refine ⟨?_, ?_, ?_, ?_, fun i hi => ?_, fun i hi => trivial, fun i hi => rfl⟩
  · simp only [Dk.new]; omega
  · simp only [Dk.new]; omega
  · simp [Dk.new]
  · simp [Dk.new]
  · simp [Dk.new]
theorem WF.arm {D : Dk} {k : Nat} (h : WF D k) (n : Int) : WF (D.arm n) k := by
  unfold Dk.arm
  split
  · exact h
  · exact ⟨h.n8, h.room, by simp only; omega, by simp only; omega, h.len, h.val, h.now⟩
theorem WF.restart {D : Dk} {k : Nat} (h : WF D k) (keep : Int) : WF (D.restart keep) k := by
  refine ⟨h.n8, h.room, h.p1, h.p2, fun i hi => ?_, fun i hi => ?_, fun i hi => ?_⟩
  · have hi' : i < D.n := hi
    have h1 := h.len i hi'
    have h2 := runs_len ((D.ar i).pend.take keep.toNat) (D.ar i).lasts
    have h3 : ((D.ar i).pend.take keep.toNat).length ≤ (D.ar i).pend.length := by simp; omega
    simp only [Dk.restart, hi', if_true, Ar.back, List.length_nil]; omega
  · have hi' : i < D.n := hi
    simp only [Dk.restart, hi', if_true, Ar.back]; trivial
  · have hi' : i < D.n := hi
    simp only [Dk.restart, hi', if_true, Ar.back]; rfl
end Go.Proofs.Ytlidigdlcjhkfaa

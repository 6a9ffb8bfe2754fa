/-
  Journals, plain: numbers, records, what counts.
-/
import Derived.Test.YtlidigdlcjhkfaaFrameM
import Derived.Test.YtlidigdlcjhkfaaDiskRM
namespace Go.Proofs.Ytlidigdlcjhkfaa
open Go Go.Eng
set_option linter.unusedVariables false
set_option linter.unusedSimpArgs false

def numd (b : List UInt8) : Nat × List UInt8 × Bool :=
  if (Frame.next b).2 = 0 ∨ (Frame.next b).1.length < 8 then (0, [], false) else (Frame.get ((Frame.next b).1.take 8), (Frame.next b).1.drop 8, true)
def chos (x y : Nat × List UInt8 × Bool) : Nat × List UInt8 := if y.2.2 = true ∧ (x.2.2 = false ∨ y.1 > x.1) then (y.1, y.2.1) else (x.1, x.2.1)
def Rok (b : List UInt8) (s : Nat) : Prop := (numd b).2.2 = true ∧ (numd b).1 = s
instance (b : List UInt8) (s : Nat) : Decidable (Rok b s) := by unfold Rok; exact inferInstance
def recs : Nat → List UInt8 → Nat → List (List UInt8) × Nat
  | 0, _, _ => ([], 0)
  | k + 1, b, s => if Rok b s then ((numd b).2.1 :: (recs k (b.drop (Frame.next b).2) s).1, (Frame.next b).2 + (recs k (b.drop (Frame.next b).2) s).2) else ([], 0)
def Recs (b : List UInt8) (s : Nat) : List (List UInt8) × Nat := recs b.length b s
/-- The records of b up to where l ends. -/
inductive RTo (b : List UInt8) (s : Nat) : List (List UInt8) → Nat → Prop
  | nil : RTo b s [] 0
  | snoc {l : List (List UInt8)} {p : Nat} : RTo b s l p → Rok (b.drop p) s → RTo b s (l ++ [(numd (b.drop p)).2.1]) (p + (Frame.next (b.drop p)).2)
theorem rok_next {b : List UInt8} {s : Nat} (h : Rok b s) : (Frame.next b).2 ≠ 0 ∧ 8 ≤ (Frame.next b).1.length := by
  unfold Rok numd at h
  split at h
  · cases h.1
  · omega
theorem numd_len (b : List UInt8) : (numd b).2.1.length ≤ b.length := by
  unfold numd
  split
  · simp
  · rename_i h
    have h1 := Frame.next_body b (fun q => h (Or.inl q))
    have h2 := Frame.next_le b
    simp only [List.length_drop]; omega
theorem RTo.le {b : List UInt8} {s : Nat} {l : List (List UInt8)} {p : Nat} (h : RTo b s l p) : p ≤ b.length := by
  induction h with
  | nil => exact Nat.zero_le _
  | snoc h1 h2 ih =>
    have := Frame.next_le (b.drop ‹Nat›)
    rw [List.length_drop] at this
    omega
theorem RTo.len {b : List UInt8} {s : Nat} {l : List (List UInt8)} {p : Nat} (h : RTo b s l p) : l.length * 16 ≤ p := by
  induction h with
  | nil => exact Nat.zero_le _
  | snoc h1 h2 ih =>
    have h3 := rok_next h2
    have h4 := Frame.next_body _ h3.1
    simp only [List.length_append, List.length_singleton]; omega
theorem recs_more : ∀ (k m : Nat) (b : List UInt8) (s : Nat), b.length ≤ k → k ≤ m → recs m b s = recs k b s := by
  intro k
  induction k with
  | zero =>
    intro m b s hb _
    cases m with
    | zero => rfl
    | succ m =>
      have : ¬ Rok b s := fun q => by have h := Frame.next_le b; have := (rok_next q).1; omega
      simp [recs, this]
  | succ k ih =>
    intro m b s hb hm
    cases m with
    | zero => omega
    | succ m =>
      simp only [recs]
      by_cases hz : Rok b s
      · have h8 := (Frame.next_body b (rok_next hz).1).2.1
        rw [if_pos hz, if_pos hz, ih m _ s (by simp; omega) (by omega)]
      · rw [if_neg hz, if_neg hz]
theorem Recs_none {b : List UInt8} {s : Nat} (h : ¬ Rok b s) : Recs b s = ([], 0) := by
  unfold Recs
  cases hb : b.length with
  | zero => rfl
  | succ k => simp [recs, h]
theorem Recs_some {b : List UInt8} {s : Nat} (h : Rok b s) : Recs b s = ((numd b).2.1 :: (Recs (b.drop (Frame.next b).2) s).1, (Frame.next b).2 + (Recs (b.drop (Frame.next b).2) s).2) := by
  have h8 := (Frame.next_body b (rok_next h).1).2.1
  have hle := Frame.next_le b
  unfold Recs
  cases hb : b.length with
  | zero => omega
  | succ k =>
    simp only [recs, if_pos h]
    rw [recs_more (b.drop (Frame.next b).2).length k _ s (Nat.le_refl _) (by simp; omega)]
theorem RTo.recs {b : List UInt8} {s : Nat} {l : List (List UInt8)} {p : Nat} (h : RTo b s l p) : Recs b s = (l ++ (Recs (b.drop p) s).1, p + (Recs (b.drop p) s).2) := by
  induction h with
  | nil => simp
  | snoc h1 h2 ih =>
    rw [ih, Recs_some h2]
    rw [List.drop_drop]
    refine Prod.ext ?_ ?_
    · simp
    · simp; omega
theorem RTo.done {b : List UInt8} {s : Nat} {l : List (List UInt8)} {p : Nat} (h : RTo b s l p) (hz : ¬ Rok (b.drop p) s) : Recs b s = (l, p) := by
  rw [h.recs, Recs_none hz]; simp
/-- A record. -/
def rec1 (s : Nat) (x : List UInt8) : List UInt8 := Frame.frame (Frame.num s 8 ++ x)
theorem rec1_len (s : Nat) (x : List UInt8) : (rec1 s x).length = 16 + x.length := by
  unfold rec1; rw [Frame.frame_length]; simp [Frame.num_length]; omega
theorem next_rec1 (s : Nat) (x r : List UInt8) (hx : x.length ≤ 60000) : Frame.next (rec1 s x ++ r) = (Frame.num s 8 ++ x, 16 + x.length) := by
  unfold rec1
  rw [Frame.next_frame _ _ (by simp [Frame.num_length]; omega)]
  refine Prod.ext rfl ?_
  simp only [List.length_append, Frame.num_length]
  omega
theorem numd_rec1 (s : Nat) (x r : List UInt8) (hs : s < 2 ^ 64) (hx : x.length ≤ 60000) : numd (rec1 s x ++ r) = (s, x, true) := by
  have h8 := Frame.num_length s 8
  unfold numd
  rw [next_rec1 s x r hx, if_neg (by simp [h8])]
  have h1 : (Frame.num s 8 ++ x).take 8 = Frame.num s 8 := by rw [List.take_append_of_le_length (by omega), List.take_of_length_le (by omega)]
  have h2 : (Frame.num s 8 ++ x).drop 8 = x := by rw [List.drop_append_of_le_length (by omega), List.drop_of_length_le (by omega), List.nil_append]
  simp only [h1, h2]
  rw [Frame.get_num (by omega), Nat.mod_eq_of_lt (by have : (256 : Nat) ^ 8 = 2 ^ 64 := by decide
                                                     omega)]
/-- Records, one behind the other. -/
def jd (s : Nat) (l : List (List UInt8)) : List UInt8 := (l.map (rec1 s)).flatten
theorem jd_cons (s : Nat) (x : List UInt8) (l : List (List UInt8)) : jd s (x :: l) = rec1 s x ++ jd s l := rfl
theorem jd_snoc (s : Nat) (l : List (List UInt8)) (x : List UInt8) : jd s (l ++ [x]) = jd s l ++ rec1 s x := by simp [jd]
theorem jd_app (s : Nat) (l m : List (List UInt8)) : jd s (l ++ m) = jd s l ++ jd s m := by simp [jd]
theorem jd_len (s : Nat) (l : List (List UInt8)) : (jd s l).length = 16 * l.length + l.flatten.length := by
  induction l with
  | nil => rfl
  | cons x l ih => rw [jd_cons, List.length_append, ih, rec1_len]; simp; omega
theorem recs_jd {s : Nat} (hs : s < 2 ^ 64) : ∀ (l : List (List UInt8)) (r : List UInt8), (∀ x ∈ l, x.length ≤ 60000) → Recs (jd s l ++ r) s = (l ++ (Recs r s).1, (jd s l).length + (Recs r s).2)
  | [], r, _ => by simp [jd]
  | x :: l, r, h => by
    have hx := h x (by simp)
    rw [jd_cons, List.append_assoc]
    have hn := numd_rec1 s x (jd s l ++ r) hs hx
    have hk := next_rec1 s x (jd s l ++ r) hx
    rw [Recs_some (by unfold Rok; rw [hn]; exact ⟨rfl, rfl⟩), hn, hk]
    have hd : (rec1 s x ++ (jd s l ++ r)).drop (16 + x.length) = jd s l ++ r := by
      rw [← rec1_len s x, List.drop_append_of_le_length (Nat.le_refl _), List.drop_length, List.nil_append]
    simp only [hd]
    rw [recs_jd hs l r (fun y hy => h y (by simp [hy]))]
    simp [rec1_len]; omega
theorem numd_nil : numd [] = (0, [], false) := by unfold numd; rw [Frame.next_short (by simp)]; simp
theorem rok_nil (s : Nat) : ¬ Rok [] s := fun h => by unfold Rok at h; rw [numd_nil] at h; cases h.1
/-- Fifteen bytes are no record. -/
theorem rok_short {b : List UInt8} (s : Nat) (h : b.length ≤ 15) : ¬ Rok b s := fun q => by
  have h1 := rok_next q
  have h2 := Frame.next_body b h1.1
  have h3 := Frame.next_le b
  omega
/-- A record that is cut short is none. -/
theorem rok_cut (s t : Nat) (x r : List UInt8) (k : Nat) (hx : x.length ≤ 60000) (hk : k < 16 + x.length) : ¬ Rok ((rec1 s x ++ r).take k) t := fun q => by
  have h := (rok_next q).1
  have h8 := Frame.num_length s 8
  exact h (Frame.next_cut _ _ _ (by simp [h8]; omega) (by simp [h8]; omega))
theorem numd_cut (s : Nat) (x r : List UInt8) (k : Nat) (hx : x.length ≤ 60000) (hk : k < 16 + x.length) : numd ((rec1 s x ++ r).take k) = (0, [], false) := by
  have h8 := Frame.num_length s 8
  have := Frame.next_cut (Frame.num s 8 ++ x) r k (by simp [h8]; omega) (by simp [h8]; omega)
  unfold numd rec1
  rw [if_pos (Or.inl this)]
end Go.Proofs.Ytlidigdlcjhkfaa

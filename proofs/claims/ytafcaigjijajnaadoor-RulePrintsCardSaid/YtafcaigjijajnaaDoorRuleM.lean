/-
  Rules, plain: tokens, words, lines.
-/
import Derived.Test.YtafcaigjijajnaaDoorPathM
namespace Go.Proofs.YtafcaigjijajnaaDoor
open Go Go.Eng
set_option linter.unusedVariables false
set_option linter.unusedSimpArgs false

def tokC (c : UInt8) : Prop := (97 ≤ c.toNat ∧ c.toNat ≤ 122) ∨ (65 ≤ c.toNat ∧ c.toNat ≤ 90) ∨ (48 ≤ c.toNat ∧ c.toNat ≤ 57) ∨ c.toNat = 95
instance (c : UInt8) : Decidable (tokC c) := by unfold tokC; exact inferInstance
def tokR (s : List UInt8) : Prop := (∀ c ∈ s, tokC c) ∧ s ≠ []
instance (s : List UInt8) : Decidable (tokR s) := by unfold tokR; exact inferInstance
/-- Does a byte stand as it is in a word? -/
def quoC (c : UInt8) : Prop := 32 < c.toNat ∧ c.toNat ≤ 126 ∧ c.toNat ≠ 37
instance (c : UInt8) : Decidable (quoC c) := by unfold quoC; exact inferInstance
def hexD (n : Nat) : UInt8 := UInt8.ofNat (if n < 10 then 48 + n else 87 + n)
def quo1 (c : UInt8) : List UInt8 := if quoC c then [c] else [37, hexD (c.toNat / 16), hexD (c.toNat % 16)]
def quoteB (s : List UInt8) : List UInt8 := if s = [] then [37] else s.flatMap quo1
/-- A digit; the program reads great letters too. -/
def hexV (c : UInt8) : Option Nat := if 48 ≤ c.toNat ∧ c.toNat ≤ 57 then some (c.toNat - 48) else if 97 ≤ c.toNat ∧ c.toNat ≤ 102 then some (c.toNat - 87) else none
def hexU (c : UInt8) : Option Nat := if 48 ≤ c.toNat ∧ c.toNat ≤ 57 then some (c.toNat - 48) else if 97 ≤ c.toNat ∧ c.toNat ≤ 102 then some (c.toNat - 87) else if 65 ≤ c.toNat ∧ c.toNat ≤ 70 then some (c.toNat - 55) else none
theorem hexV_D : ∀ n : Fin 16, hexV (hexD n) = some n.1 := by decide
theorem hexU_D : ∀ n : Fin 16, hexU (hexD n) = some n.1 := by decide
/-- The way back, of the program: none: a sign is no digit. -/
def decP : List UInt8 → Option (List UInt8)
  | [] => some []
  | c :: a :: b :: r =>
    if c.toNat = 37 then
      match hexU a, hexU b with
      | some x, some y => (decP r).map (UInt8.ofNat (16 * x + y) :: ·)
      | _, _ => none
    else (decP (a :: b :: r)).map (c :: ·)
  | c :: r => (decP r).map (c :: ·)
/-- .. and the reference's. -/
def decF : List UInt8 → List UInt8
  | [] => []
  | c :: a :: b :: r =>
    if c.toNat = 37 then
      match hexV a, hexV b with
      | some x, some y => UInt8.ofNat (16 * x + y) :: decF r
      | _, _ => c :: decF (a :: b :: r)
    else c :: decF (a :: b :: r)
  | c :: r => c :: decF r
def unqP (s : List UInt8) : Option (List UInt8) := if s = [37] then some [] else match decP s with
  | some t => if quoteB t = s then some t else none
  | none => none
def unqF (s : List UInt8) : Option (List UInt8) := if s = [37] then some [] else if quoteB (decF s) = s then some (decF s) else none
theorem byte_parts (c : UInt8) : UInt8.ofNat (16 * (c.toNat / 16) + c.toNat % 16) = c := by
  rw [Nat.div_add_mod]; simp
theorem decP_quo (c : UInt8) (r : List UInt8) : decP (quo1 c ++ r) = (decP r).map (c :: ·) := by
  unfold quo1
  split
  · rename_i h
    have h37 : ¬ c.toNat = 37 := h.2.2
    rcases r with _ | ⟨a, _ | ⟨b, r⟩⟩
    · simp [decP]
    · simp [decP]
    · simp [decP, h37]
  · have hl : c.toNat < 256 := c.toNat_lt
    have h1 := hexU_D ⟨c.toNat / 16, by omega⟩
    have h2 := hexU_D ⟨c.toNat % 16, by omega⟩
    simp only at h1 h2
    simp only [List.cons_append, List.nil_append, decP, h1, h2, byte_parts]
    simp
theorem decF_quo (c : UInt8) (r : List UInt8) : decF (quo1 c ++ r) = c :: decF r := by
  unfold quo1
  split
  · rename_i h
    have h37 : ¬ c.toNat = 37 := h.2.2
    rcases r with _ | ⟨a, _ | ⟨b, r⟩⟩
    · simp [decF]
    · simp [decF]
    · simp [decF, h37]
  · have hl : c.toNat < 256 := c.toNat_lt
    have h1 := hexV_D ⟨c.toNat / 16, by omega⟩
    have h2 := hexV_D ⟨c.toNat % 16, by omega⟩
    simp only at h1 h2
    simp only [List.cons_append, List.nil_append, decF, h1, h2, byte_parts]
    simp
theorem decP_flat : ∀ s : List UInt8, decP (s.flatMap quo1) = some s
  | [] => rfl
  | c :: s => by rw [List.flatMap_cons, decP_quo, decP_flat s]; rfl
theorem decF_flat : ∀ s : List UInt8, decF (s.flatMap quo1) = s
  | [] => rfl
  | c :: s => by rw [List.flatMap_cons, decF_quo, decF_flat s]
theorem flat_ne37 {s : List UInt8} (h : s ≠ []) : s.flatMap quo1 ≠ [37] := by
  cases s with
  | nil => exact absurd rfl h
  | cons c s =>
    rw [List.flatMap_cons]
    unfold quo1
    split
    · rename_i hc
      intro q
      simp only [List.cons_append, List.nil_append, List.cons.injEq] at q
      rw [q.1] at hc; exact hc.2.2 rfl
    · intro q
      simp at q
theorem unqP_iff {s t : List UInt8} : unqP s = some t ↔ s = quoteB t := by
  unfold unqP
  constructor
  · intro h
    split at h
    · rename_i hs
      cases h
      rw [hs]; rfl
    · split at h
      · split at h
        · rename_i hq; cases h; exact hq.symm
        · cases h
      · cases h
  · intro h
    by_cases ht : t = []
    · subst ht
      rw [h]; rfl
    · have hq : quoteB t = t.flatMap quo1 := by unfold quoteB; rw [if_neg ht]
      rw [if_neg (by rw [h, hq]; exact flat_ne37 ht), h, hq, decP_flat]
      simp only [hq, if_true]
theorem unqF_iff {s t : List UInt8} : unqF s = some t ↔ s = quoteB t := by
  unfold unqF
  constructor
  · intro h
    split at h
    · rename_i hs
      cases h
      rw [hs]; rfl
    · split at h
      · rename_i hq; cases h; exact hq.symm
      · cases h
  · intro h
    by_cases ht : t = []
    · subst ht
      rw [h]; rfl
    · have hq : quoteB t = t.flatMap quo1 := by unfold quoteB; rw [if_neg ht]
      rw [if_neg (by rw [h, hq]; exact flat_ne37 ht), h, hq, decF_flat, if_pos hq]
theorem unq_same (s : List UInt8) : unqP s = unqF s := by
  cases h : unqF s with
  | some t => rw [unqP_iff]; exact unqF_iff.1 h
  | none =>
    cases h' : unqP s with
    | none => rfl
    | some t => rw [unqF_iff.2 (unqP_iff.1 h')] at h; cases h
theorem quote_inj {s t : List UInt8} (h : quoteB s = quoteB t) : s = t := by
  have h1 := unqP_iff.2 (rfl : quoteB s = quoteB s)
  have h2 := unqP_iff.2 h
  rw [h1] at h2; cases h2; rfl
theorem hexD_word : ∀ n : Fin 16, 33 ≤ (hexD n).toNat ∧ (hexD n).toNat ≤ 126 := by decide
/-- A word has no blank, and no line feed. -/
theorem quote_word (s : List UInt8) : ∀ c ∈ quoteB s, 33 ≤ c.toNat ∧ c.toNat ≤ 126 := by
  intro c hc
  unfold quoteB at hc
  split at hc
  · rw [List.mem_singleton.1 hc]; decide
  · obtain ⟨x, _, hx⟩ := List.mem_flatMap.1 hc
    have hl : x.toNat < 256 := x.toNat_lt
    unfold quo1 at hx
    split at hx
    · rename_i h
      rw [List.mem_singleton.1 hx]; have := h.1; have := h.2.1; omega
    · simp only [List.mem_cons, List.not_mem_nil, or_false] at hx
      rcases hx with rfl | rfl | rfl
      · decide
      · exact hexD_word ⟨x.toNat / 16, by omega⟩
      · exact hexD_word ⟨x.toNat % 16, by omega⟩
theorem quote_ne (s : List UInt8) : quoteB s ≠ [] := by
  unfold quoteB
  split
  · simp
  · rename_i h
    cases s with
    | nil => exact absurd rfl h
    | cons c s =>
      rw [List.flatMap_cons]
      unfold quo1
      split <;> simp
theorem quote_len (s : List UInt8) : (quoteB s).length ≤ 3 * s.length + 1 := by
  unfold quoteB
  split
  · simp
  · have : ∀ l : List UInt8, (l.flatMap quo1).length ≤ 3 * l.length := fun l => by
      induction l with
      | nil => simp
      | cons c l ih =>
        rw [List.flatMap_cons, List.length_append, List.length_cons]
        have : (quo1 c).length ≤ 3 := by unfold quo1; split <;> simp
        omega
    have := this s; omega
/-! pieces, joined -/
/-- Joined: a sign between. -/
def joinB (c : UInt8) : List (List UInt8) → List UInt8
  | [] => []
  | [p] => p
  | p :: r => p ++ c :: joinB c r
theorem parts_app {c : UInt8} {p l : List UInt8} (h : c ∉ p) : parts c (p ++ c :: l) = p :: parts c l := by
  induction p with
  | nil => simp [parts]
  | cons x p ih =>
    have hx : ¬ x = c := fun q => h (by rw [q]; exact List.mem_cons_self)
    have hp : c ∉ p := fun q => h (List.mem_cons_of_mem _ q)
    simp only [List.cons_append, parts, if_neg hx, ih hp]
theorem parts_none' {c : UInt8} {p : List UInt8} (h : c ∉ p) : parts c p = [p] := by
  induction p with
  | nil => rfl
  | cons x p ih =>
    have hx : ¬ x = c := fun q => h (by rw [q]; exact List.mem_cons_self)
    have hp : c ∉ p := fun q => h (List.mem_cons_of_mem _ q)
    simp only [parts, if_neg hx, ih hp]
/-- What was joined is there again. -/
theorem parts_join {c : UInt8} : ∀ {l : List (List UInt8)}, l ≠ [] → (∀ p ∈ l, c ∉ p) → parts c (joinB c l) = l
  | [], h, _ => absurd rfl h
  | [p], _, h => parts_none' (h p List.mem_cons_self)
  | p :: q :: r, _, h => by
    show parts c (p ++ c :: joinB c (q :: r)) = p :: q :: r
    rw [parts_app (h p List.mem_cons_self), parts_join (by simp) (fun x hx => h x (List.mem_cons_of_mem _ hx))]
theorem parts_mem {c : UInt8} : ∀ {s p : List UInt8}, p ∈ parts c s → c ∉ p
  | [], p, h => by
    have : p = [] := by simpa [parts] using h
    simp [this]
  | x :: l, p, h => by
    unfold parts at h
    split at h
    · rcases List.mem_cons.1 h with rfl | h
      · simp
      · exact parts_mem h
    · rename_i hx
      split at h
      · rename_i q r hq
        rcases List.mem_cons.1 h with rfl | h
        · have := parts_mem (c := c) (s := l) (p := q) (by rw [hq]; exact List.mem_cons_self)
          intro k
          rcases List.mem_cons.1 k with k | k
          · exact hx k.symm
          · exact this k
        · exact parts_mem (c := c) (s := l) (by rw [hq]; exact List.mem_cons_of_mem _ h)
      · have : p = [x] := by simpa using h
        rw [this]; simp; exact fun q => hx q.symm
theorem join_parts {c : UInt8} : ∀ s : List UInt8, joinB c (parts c s) = s
  | [] => rfl
  | x :: l => by
    have ih := join_parts (c := c) l
    unfold parts
    split
    · rename_i hx
      cases hp : parts c l with
      | nil => exact absurd hp (parts_ne c l)
      | cons q r =>
        rw [hp] at ih
        show ([] : List UInt8) ++ c :: joinB c (q :: r) = x :: l
        rw [ih, hx]; rfl
    · split
      · rename_i q r hq
        rw [hq] at ih
        cases r with
        | nil => show x :: q = x :: l; rw [← ih]; rfl
        | cons r1 r => 
          show (x :: q) ++ c :: joinB c (r1 :: r) = x :: l
          rw [← ih]; rfl
      · rename_i hq
        exact absurd hq (parts_ne c l)
/-- Two texts, the one behind the other, by a sign. -/
theorem parts_two {c : UInt8} (a b : List UInt8) : parts c (a ++ c :: b) = parts c a ++ parts c b := by
  induction a with
  | nil => simp [parts]
  | cons x a ih =>
    simp only [List.cons_append, parts]
    by_cases hx : x = c
    · simp only [if_pos hx, ih]; rfl
    · simp only [if_neg hx, ih]
      cases hp : parts c a with
      | nil => exact absurd hp (parts_ne c a)
      | cons p r => rfl
end Go.Proofs.YtafcaigjijajnaaDoor
